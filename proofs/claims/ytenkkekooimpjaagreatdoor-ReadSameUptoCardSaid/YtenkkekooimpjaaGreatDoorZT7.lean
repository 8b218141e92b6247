/-
 Part of a claim: definitions and lemmas that its theorem leans on, packed by wip/tools/pack.py.
-/
import Derived.Test.YtenkkekooimpjaaGreatDoorZT6
set_option linter.unusedVariables false
set_option linter.unusedSimpArgs false
section
set_option linter.unusedVariables false
set_option linter.unusedSimpArgs false
namespace Go.Proofs.YtenkkekooimpjaaGreatDoor.Ev
open Go
section
def preW (h : List Ob) (q : Nat) (fo : Option (Nat × Nat × Nat)) (a : AV) : List (Nat × Ob) :=
 match fo with
 | none => []
 | some (_, _, c) =>
  match a, getO h c with
  | _, .no => []
  | .ofl _ oo, _ => match Nat.beq oo c with
   | true => []
   | false => closeW h q
  | _, _ => closeW h q
def foAt (fo : Option (Nat × Nat × Nat)) (e j : Nat) (k : Prop) : Prop :=
 match fo with
 | none => k
 | some (i, j', _) => match Nat.beq j j' with
  | true => e = i ∧ k
  | false => False
def orE (s sz : Nat) (n : Option Nat) (e : Nat) (k : Option Nat → Prop) : Prop :=
 match n with
 | none => k none
 | some m => match ownIn s 0 sz with
  | _ :: [] => (e < m ∧ k (some m)) ∨ (e = m ∧ k (some (m + 1)))
  | _ => e < m ∧ k (some m)
def asR (s : Nat) : Ob → Ob
 | .f _ sz es => .r s 0 sz es (some 0) none
 | ob => ob
def putZ (a : AV) (n : Option Nat) (fo : Option (Nat × Nat × Nat)) (vs0 : List AV) : Option (Nat × List FV) :=
 match a, n, fo, frzL vs0 with
 | .fz _, some m, none, some fs => some (m, fs)
 | _, _, _, _ => none
theorem putZ_some {a : AV} {n : Option Nat} {fo : Option (Nat × Nat × Nat)} {vs0 : List AV} {m : Nat} {fs : List FV} (h : putZ a n fo vs0 = some (m, fs)) : n = some m ∧ fo = none ∧ frzL vs0 = some fs := by
 unfold putZ at h
 split at h
 ·rename_i h1
  cases h
  exact ⟨rfl, rfl, h1⟩
 ·cases h
def evStoreR (P : Program) (ty : TypeId) (q e c : Nat) (ety : TypeId) (vs0 : List AV) (s0 : Nat) (h : List Ob) (K : OpK) : Prop :=
 match asR s0 (getO h q) with
 | .r s et sz es n fo =>
  if P.underlying ty ≠ none ∧ vs0.length = P.cellsOf ty then
   match ownIn s c vs0.length with
   | [] =>
    match frzL vs0 with
    | some fs => exC (kinds P ety) fun cs => es[e]? = some cs ∧ if c + fs.length ≤ cs.length then K .und [(q, .r s et sz (es.set e (overF cs c fs)) n fo)] [q] else False
    | none => False
   | j :: [] =>
    match vs0[j - c]? with
    | some a =>
     match putZ a n fo vs0 with
     | some (m, fs) => m ≤ e ∧ exC (kinds P ety) fun cs => es[e]? = some cs ∧ if c + fs.length ≤ cs.length then K .und [(q, .r s et sz (es.set e (overF cs c fs)) (some m) none)] [q] else False
     | none =>
     match asR s0 (getO (putOs h (preW h q fo a)) q) with
     | .r s1 et sz es n fo1 =>
      match Nat.beq s1 s, a with
      | true, .ofl sz' oo =>
       match frzL (vs0.set (j - c) (.fz (.sl sz' []))), Nat.beq oo q with
       | some fs, false => foAt fo1 e j (exC (kinds P ety) fun cs => es[e]? = some cs ∧ if c + fs.length ≤ cs.length then
         orE s1 sz n e fun n' => K .und (preW h q fo a ++ [(q, .r s1 et sz (es.set e (overF cs c fs)) n' (some (e, j, oo)))] ++ closeW (putOs h (preW h q fo a ++ [(q, .r s1 et sz (es.set e (overF cs c fs)) n' (some (e, j, oo)))])) q) (oo :: rdC h q)
        else False)
       | _, _ => False
      | true, .nsl sz' =>
       match frzL (vs0.set (j - c) (.fz (.sl sz' []))) with
       | some fs => foAt fo1 e j (exC (kinds P ety) fun cs => es[e]? = some cs ∧ if c + fs.length ≤ cs.length then
         orE s1 sz n e fun n' => K .und (preW h q fo a ++ [(q, .r s1 et sz (es.set e (overF cs c fs)) n' none)]) (rdC h q)
        else False)
       | none => False
      | _, _ => False
     | _ => False
    | none => False
   | _ => False
  else False
 | _ => False
theorem ownIn_spec (s : Nat) : ∀ (m c j : Nat), j ∈ ownIn s c m ↔ (c ≤ j ∧ j < c + m ∧ kid s j ≠ none)
 | 0, c, j => by simp [ownIn]; omega
 | m + 1, c, j => by
  have ih := ownIn_spec s m (c + 1) j
  unfold ownIn
  cases hk : kid s c with
  | none =>
   simp only
   rw [ih]
   constructor
   ·rintro ⟨h1, h2, h3⟩; exact ⟨by omega, by omega, h3⟩
   ·rintro ⟨h1, h2, h3⟩
    refine ⟨?_, by omega, h3⟩
    rcases Nat.lt_or_ge c j with h' | h'
    ·exact h'
    ·rw [show j = c by omega, hk] at h3; exact absurd rfl h3
  | some s' =>
   simp only [List.mem_cons]
   rw [ih]
   constructor
   ·rintro (rfl | ⟨h1, h2, h3⟩)
    ·exact ⟨Nat.le_refl _, by omega, by rw [hk]; simp⟩
    ·exact ⟨by omega, by omega, h3⟩
   ·rintro ⟨h1, h2, h3⟩
    rcases Nat.lt_or_ge c j with h' | h'
    ·exact .inr ⟨by omega, by omega, h3⟩
    ·exact .inl (by omega)
theorem asR_rep {P : Program} {w : World} {B : Nat → Prop} {locs : Nat → Option Loc} {S : Nat → Prop} {l : Loc} {ob : Ob} {s0 : Nat} (h : RepOb P w B locs S l ob) : RepOb P w B locs S l (asR s0 ob) := by
 cases ob with
 | f et sz es => exact f_as_r s0 h
 | _ => exact h
theorem asR_live {s0 : Nat} {ob : Ob} {s et sz : Nat} {es : List (List FV)} {n : Option Nat} {fo : Option (Nat × Nat × Nat)} (h : asR s0 ob = .r s et sz es n fo) : ob.live = true ∧ ob ≠ .no ∧ ob ≠ .rs := by
 cases ob <;> first | exact ⟨rfl, by simp, by simp⟩ | cases h
theorem orE_out {s sz : Nat} {n : Option Nat} {e : Nat} {k : Option Nat → Prop} (h : orE s sz n e k) : ∃ n', k n' ∧ inN n' e ∧ (n' = n ∨ (n = some e ∧ n' = some (e + 1) ∧ ∃ j, ownIn s 0 sz = [j])) := by
 cases n with
 | none => exact ⟨none, h, fun k hk => (by cases hk), .inl rfl⟩
 | some m =>
  unfold orE at h
  simp only at h
  split at h
  ·rename_i j hj
   rcases h with ⟨h1, h2⟩ | ⟨rfl, h2⟩
   ·exact ⟨_, h2, fun k hk => (by cases hk; exact h1), .inl rfl⟩
   ·exact ⟨_, h2, fun k hk => (by cases hk; omega), .inr ⟨rfl, rfl, j, hj⟩⟩
  ·exact ⟨_, h.2, fun k hk => (by cases hk; exact h.1), .inl rfl⟩
theorem foAt_out {fo : Option (Nat × Nat × Nat)} {e j : Nat} {k : Prop} (h : foAt fo e j k) : k ∧ ∀ i j' o, fo = some (i, j', o) → i = e ∧ j' = j := by
 unfold foAt at h
 split at h
 ·exact ⟨h, fun _ _ _ e => (by cases e)⟩
 ·split at h
  ·rename_i hb
   have := Nat.eq_of_beq_eq_true hb
   exact ⟨h.2, fun _ _ _ e' => (by cases e'; exact ⟨h.1.symm, this.symm⟩)⟩
  ·exact h.elim
section
variable {P : Program} {ext : Nat → Prop} {w0 : World} {own0 : Own0} {locs : Locs} {h : List Ob} {w w' : World}
theorem preW_cases (h : List Ob) (q : Nat) (fo : Option (Nat × Nat × Nat)) (a : AV) : preW h q fo a = [] ∨ preW h q fo a = closeW h q := by
 unfold preW
 split
 ·exact .inl rfl
 ·split
  ·exact .inl rfl
  ·split
   ·exact .inl rfl
   ·exact .inr rfl
  ·exact .inr rfl
theorem preW_congr {h h' : List Ob} {q : Nat} {fo : Option (Nat × Nat × Nat)} {a : AV} (hfo : ∀ i j c, fo = some (i, j, c) → c ∈ rdC h q) (hrd : ∀ i ∈ rdC h q, h'[i]? = h[i]?) : preW h' q fo a = preW h q fo a := by
 unfold preW
 rw [closeW_congr hrd]
 split
 ·rfl
 ·rename_i i j c
  rw [getO_same (hrd c (hfo i j c rfl))]
theorem RepH.pre (H : RepH P ext w0 own0 locs h w) (q : Nat) (fo : Option (Nat × Nat × Nat)) (a : AV) : ∃ locs' : Locs, locs'.l = locs.l ∧ RepH P ext w0 own0 locs' (putOs h (preW h q fo a)) w ∧ Later w (Bar ext locs h) w (Bar ext locs' (putOs h (preW h q fo a))) := by
 rcases preW_cases h q fo a with e | e
 ·rw [e]; exact ⟨locs, rfl, H, Later.refl _ _⟩
 ·rw [e]; exact H.close q
theorem run_storeR {P : Program} {ty : TypeId} {d : TypeDesc} (hd : P.underlying ty = some d) {w : World} {b off sz e c : Nat} {cc : Array Value} {t : TypeId} {v : Value} (hh : w.heap[b]? = some (.cells cc t (0, 0))) (hsz : v.cells.size = P.cellsOf ty) (hb : off + e * sz + c + v.cells.toList.length ≤ cc.size)
  (hone : ∀ u ∈ v.cells.toList, u.oneCell' = true) :
  (do Instr.storeAt ty (.pointer (some ⟨b, off + e * sz + c, none⟩)) v; pure .skip : Sem Next).run P w = .ok Next.skip (w.setRow b (cc.toList.take (off + e * sz + c) ++ v.cells.toList ++ cc.toList.drop (off + e * sz + c + v.cells.toList.length)).toArray) := by
 have hrun := run_storeCells_at P b (off + e * sz + c) t v.cells.toList 0 cc w hh (by omega) hone
 simp only [Nat.add_zero] at hrun
 simp only [Instr.storeAt, Instr.sureAddr, Sem.run_bind, Sem.run_pure, Result.andThen, storeVar, run_sizeOf hd, hsz, ne_eq, not_true_eq_false, if_false, hrun]
end
theorem cells_one {w : World} {B : Nat → Prop} {locs : Nat → Option Loc} {cs : List AV} {v : Value} (hs : cs.all AV.sure = true) (hc : v.cells.size = cs.length ∧ ∀ (j : Nat) (x : AV), cs[j]? = some x → ∃ u, v.cells[j]? = some u ∧ RA w B locs x u) : ∀ u ∈ v.cells.toList, u.oneCell' = true := by
 intro u hu
 obtain ⟨j, hj, hju⟩ := List.getElem_of_mem hu
 have hj' : j < cs.length := by rw [← hc.1]; simpa using hj
 obtain ⟨u', hu', hr⟩ := hc.2 j cs[j] (List.getElem?_eq_getElem _)
 have e1 : u' = u := by
  have e2 : v.cells[j]? = some u := by rw [← hju]; simp
  rw [e2] at hu'; cases hu'; rfl
 subst e1
 exact (RA.cells (List.all_eq_true.1 hs _ (List.getElem_mem _)) hr).2
theorem frz1_sure {a : AV} {v : FV} (h : frz1 a = some v) : a.sure = true := by cases a <;> first | rfl | cases h
theorem frzL_sure : ∀ {cs : List AV} {l : List FV}, frzL cs = some l → cs.all AV.sure = true
 | [], _, _ => rfl
 | a :: r, l, h => by
  unfold frzL at h
  split at h
  ·rename_i v hv
   split at h
   ·rename_i l' hl
    rw [List.all_cons, frz1_sure hv, frzL_sure hl]; rfl
   ·cases h
  ·cases h
theorem frzL_get : ∀ {cs : List AV} {l : List FV}, frzL cs = some l → l.length = cs.length ∧ ∀ (j : Nat) (x : FV), l[j]? = some x → ∃ a, cs[j]? = some a ∧ frz1 a = some x
 | [], l, h => by cases h; exact ⟨rfl, by simp⟩
 | a :: r, l, h => by
  unfold frzL at h
  split at h
  ·rename_i v hv
   split at h
   ·rename_i l' hl
    cases h
    obtain ⟨h1, h2⟩ := frzL_get hl
    refine ⟨by simp [h1], fun j x hx => ?_⟩
    cases j with
    | zero => cases hx; exact ⟨a, rfl, hv⟩
    | succ j => exact h2 j x hx
   ·cases h
  ·cases h
theorem all_set {cs : List AV} {k : Nat} {a b : AV} (h : (cs.set k b).all AV.sure = true) (hk : cs[k]? = some a) (ha : a.sure = true) : cs.all AV.sure = true := by
 rw [List.all_eq_true] at h ⊢
 intro x hx
 obtain ⟨i, hi, rfl⟩ := List.getElem_of_mem hx
 by_cases e : k = i
 ·subst e
  rw [List.getElem?_eq_getElem hi] at hk; cases hk; exact ha
 ·exact h _ (List.mem_of_getElem? (i := i) (by rw [List.getElem?_set, if_neg e, List.getElem?_eq_getElem hi]))
theorem putOs_eq {q : Nat} : ∀ (wr : List (Nat × Ob)) (h h' : List Ob), (∀ p ∈ wr, p.1 < h.length ∧ p.1 < h'.length) → h'[q]? = h[q]? → (putOs h' wr)[q]? = (putOs h wr)[q]?
 | [], _, _, _, e => e
 | (o, ob) :: r, h, h', hl, e => by
  obtain ⟨h1, h2⟩ := hl (o, ob) (by simp)
  simp only at h1 h2
  simp only [putOs, putO, if_pos h1, if_pos h2]
  refine putOs_eq r _ _ (fun p hp => by simpa using hl p (by simp [hp])) ?_
  rw [List.getElem?_set, List.getElem?_set, if_pos h1, if_pos h2, e]
theorem preW_lt {h h' : List Ob} {q : Nat} {fo : Option (Nat × Nat × Nat)} {a : AV} (hrd : ∀ i ∈ rdC h q, h'[i]? = h[i]?) : ∀ p ∈ preW h q fo a, p.1 < h.length ∧ p.1 < h'.length := by
 intro p hp
 rcases preW_cases h q fo a with e | e
 ·rw [e] at hp; cases hp
 ·rw [e] at hp
  unfold closeW at hp
  split at hp
  ·rename_i s et sz es n i j c hg
   split at hp
   ·split at hp
    ·rename_i x hx
     have h1 : h[q]? = some (.r s et sz es n (some (i, j, c))) := getO_some hg (by simp)
     have h2 : ∃ ob, h[c]? = some ob := by
      unfold backRow at hx
      split at hx
      ·rename_i hg'; exact ⟨_, getO_some hg' (by simp)⟩
      ·rename_i hg'; exact ⟨_, getO_some hg' (by simp)⟩
      ·cases hx
     obtain ⟨obc, h2⟩ := h2
     have h3 := (hrd q (by unfold rdC; rw [hg]; simp)).trans h1
     have h4 := (hrd c (by unfold rdC; rw [hg]; simp)).trans h2
     simp only [List.mem_cons, List.not_mem_nil, or_false] at hp
     rcases hp with rfl | rfl
     ·exact ⟨(List.getElem?_eq_some_iff.1 h1).1, (List.getElem?_eq_some_iff.1 h3).1⟩
     ·exact ⟨(List.getElem?_eq_some_iff.1 h2).1, (List.getElem?_eq_some_iff.1 h4).1⟩
    ·cases hp
   ·cases hp
  ·cases hp
theorem storeR_ok {P : Program} {o : Oper} {ty : TypeId} {p x : Operand} (hop : o.op = .store ty p x) {t : List TV} {h : List Ob} {id : Nat} {K : OpK} {q e c : Nat} {ety : TypeId} {vs0 : List AV} {s0 : Nat} (hp : ev t p = .one (.ptr q e c ety)) (hcs : cellsT (ev t x) = some vs0)
  (he : evStoreR P ty q e c ety vs0 s0 h K) : ∃ v wr rd, K v wr rd ∧ OpOK P o t h id v wr rd := by
 have hmp : p ∈ o.op.operands := by rw [hop]; simp [Op.operands]
 have hmx : x ∈ o.op.operands := by rw [hop]; simp [Op.operands]
 have hexec : ∀ a : Act, execOp a.eval o = (do Instr.storeAt ty (a.eval p) (a.eval x); pure .skip) := fun a => by unfold execOp; rw [hop]
 unfold evStoreR at he
 split at he
 ·rename_i s et sz es n fo hg
  split at he
  ·rename_i hc
   obtain ⟨hty, hvl⟩ := hc
   obtain ⟨d, hd⟩ := Option.ne_none_iff_exists'.1 hty
   have hmemq : ∀ h : List Ob, q ∈ rdC h q := fun h => by unfold rdC; split <;> simp
   split at he
   ·
    rename_i hown
    split at he
    ·rename_i fs hfs
     obtain ⟨cs, hes, he⟩ := exC_out he
     split at he
     ·rename_i hle
      refine ⟨_, _, _, he, fun ext w0 own0 t' h' a w Q hlen hag hrd _ R => ?_⟩
      obtain ⟨locs, H, RTm⟩ := R.repT
      obtain ⟨l1, l2, l3⟩ := asR_live hg
      have hq : h'[q]? = some (getO h q) := by rw [hrd q (by simp)]; exact getO_some rfl l2
      obtain ⟨l, hl, hob⟩ := H.get hq l2 l3
      have hr := asR_rep (s0 := s0) hob
      rw [hg] at hr
      have hpp := ev_rep RTm p
      rw [hag p hmp, hp] at hpp
      obtain ⟨l', dd, g1, g2, g3⟩ := hpp
      rw [hl] at g1; cases g1
      have hxx := ev_rep RTm x
      rw [hag x hmx] at hxx
      have hcv := cellsT_ok hcs hxx
      obtain ⟨hfl, hfg⟩ := frzL_get hfs
      have hcl : (a.eval x).cells.toList.length = fs.length := by rw [hfl]; simpa using hcv.1
      obtain ⟨b, off, cc, tt, a1, a2, a3, a4, H', lt⟩ := H.writeR hq l1 hl hr hes hle (us := (a.eval x).cells.toList) hcl (n' := n) (fo' := fo)
       (fun k y hy => by
        obtain ⟨av, hav, hf1⟩ := hfg k y hy
        obtain ⟨u, hu, hra⟩ := hcv.2 k av hav
        refine ⟨u, by simpa using hu, .inl ⟨?_, frz1_ok hf1 hra⟩⟩
        have hk : k < vs0.length := (List.getElem?_eq_some_iff.1 hav).1
        cases hkid : kid s (c + k) with
        | none => rfl
        | some s' =>
         have := (ownIn_spec s vs0.length c (c + k)).2 ⟨by omega, by omega, by rw [hkid]; simp⟩
         rw [hown] at this; cases this)
       (fun i j o e => .inl e) (fun i j o e => .inl e) (.inl rfl)
       (fun k hk hne => by
        have := (ownIn_spec s vs0.length c (c + k)).2 ⟨by omega, by omega, hne⟩
        rw [hown] at this; cases this)
      rw [a1] at g2; cases g2
      have hput : putOs h' [(q, .r s et sz (es.set e (overF cs c fs)) n fo)] = h'.set q (.r s et sz (es.set e (overF cs c fs)) n fo) := by simp only [putOs, putO_lt hq]
      refine wp_skip' ?_ (by rw [hput]; exact Rep.mkput R RTm H' lt (fun _ _ h => h) o.dst .und undef trivial)
      rw [hexec, g3, a4]
      exact run_storeR hd a2 (by rw [hcv.1, hvl]) (by omega) (cells_one (frzL_sure hfs) hcv)
     ·exact he.elim
    ·exact he.elim
   ·rename_i j hown
    have hjr := (ownIn_spec s vs0.length c j).1 (by rw [hown]; simp)
    split at he
    ·rename_i av hav
     split at he
     ·rename_i m fs hz
      obtain ⟨rfl, rfl, hfs⟩ := putZ_some hz
      obtain ⟨hme, he⟩ := he
      obtain ⟨cs, hes, he⟩ := exC_out he
      split at he
      ·rename_i hle
       refine ⟨_, _, _, he, fun ext w0 own0 t' h' a w Q hlen hag hrd _ R => ?_⟩
       obtain ⟨locs, H, RTm⟩ := R.repT
       obtain ⟨l1, l2, l3⟩ := asR_live hg
       have hq : h'[q]? = some (getO h q) := by rw [hrd q (by simp)]; exact getO_some rfl l2
       obtain ⟨l, hl, hob⟩ := H.get hq l2 l3
       have hr := asR_rep (s0 := s0) hob
       rw [hg] at hr
       have hpp := ev_rep RTm p
       rw [hag p hmp, hp] at hpp
       obtain ⟨l', dd, g1, g2, g3⟩ := hpp
       rw [hl] at g1; cases g1
       have hxx := ev_rep RTm x
       rw [hag x hmx] at hxx
       have hcv := cellsT_ok hcs hxx
       obtain ⟨hfl, hfg⟩ := frzL_get hfs
       have hcl : (a.eval x).cells.toList.length = fs.length := by rw [hfl]; simpa using hcv.1
       obtain ⟨b, off, cc, tt, a1, a2, a3, a4, H', lt⟩ := H.writeRz hq l1 hl hr hes hle (us := (a.eval x).cells.toList) hcl
        (fun k y hy => by
         obtain ⟨av, hav, hf1⟩ := hfg k y hy
         obtain ⟨u, hu, hra⟩ := hcv.2 k av hav
         exact ⟨u, by simpa using hu, frz1_ok hf1 hra⟩)
        (fun hin => by have := hin _ rfl; omega) (fun j o e => by cases e)
       rw [a1] at g2; cases g2
       have hput : putOs h' [(q, .r s et sz (es.set e (overF cs c fs)) (some m) none)] = h'.set q (.r s et sz (es.set e (overF cs c fs)) (some m) none) := by simp only [putOs, putO_lt hq]
       refine wp_skip' ?_ (by rw [hput]; exact Rep.mkput R RTm H' lt (fun _ _ h => h) o.dst .und undef trivial)
       rw [hexec, g3, a4]
       exact run_storeR hd a2 (by rw [hcv.1, hvl]) (by omega) (cells_one (frzL_sure hfs) hcv)
      ·exact he.elim
     rename_i hz0
     clear hz0
     split at he
     ·rename_i s1 et1 sz1 es1 n1 fo1 hg1
      have main : ∀ (fs cs : List FV) (sz' : Nat) (n' : Option Nat) (fo' : Option (Nat × Nat × Nat)), frzL (vs0.set (j - c) (.fz (.sl sz' []))) = some fs → es1[e]? = some cs → c + fs.length ≤ cs.length → s1 = s →
        (∀ i j' o, fo1 = some (i, j', o) → i = e ∧ j' = j) → inN n' e → (n' = n1 ∨ (n1 = some e ∧ n' = some (e + 1) ∧ ∃ j, ownIn s1 0 sz1 = [j])) → av.sure = true →
        ((∃ oo szo, av = .ofl szo oo ∧ fo' = some (e, j, oo)) ∨ (∃ szn, av = .nsl szn ∧ fo' = none)) →
        ∀ (ext : Nat → Prop) (w0 : World) (own0 : Own0) (t' : List TV) (h' : List Ob) (a : Act) (w : World), (∀ x ∈ o.op.operands, ev t' x = ev t x) → (∀ i ∈ rdC h q, h'[i]? = h[i]?) → Rep P ext w0 own0 ⟨t', h'⟩ a w →
        ∃ (locs locs' : Locs) (w' : World), locs'.l = locs.l ∧ RepH P ext w0 own0 locs h' w ∧ RepT w (Bar ext locs h') locs t' a ∧ RepH P ext w0 own0 locs' (putOs h' (preW h q fo av ++ [(q, .r s1 et1 sz1 (es1.set e (overF cs c fs)) n' fo')])) w' ∧
         Later w (Bar ext locs h') w' (Bar ext locs' (putOs h' (preW h q fo av ++ [(q, .r s1 et1 sz1 (es1.set e (overF cs c fs)) n' fo')]))) ∧ (execOp a.eval o).run P w = .ok .skip w' ∧ w.heap.size ≤ w'.heap.size := by
       intro fs cs sz' n' fo' hfs hes hle hss hfo1 hin hn' hsure hkind ext w0 own0 t' h' a w hag hrd R
       subst hss
       obtain ⟨locs, H, RTm⟩ := R.repT
       have hqr := hmemq h
       have hfoc : ∀ i j c, fo = some (i, j, c) → c ∈ rdC h q := by
        intro i j c e
        subst e
        cases hgo : getO h q with
        | f et sz es => rw [hgo] at hg; cases hg
        | r s et sz es n fo => rw [hgo] at hg; cases hg; unfold rdC; rw [hgo]; simp
        | _ => rw [hgo] at hg; cases hg
       obtain ⟨locs1, hl1, H1, lt1⟩ := H.pre q fo av
       rw [preW_congr hfoc hrd] at H1 lt1
       have hq1 : (putOs h' (preW h q fo av))[q]? = some (getO (putOs h (preW h q fo av)) q) := by
        rw [putOs_eq _ h h' (preW_lt hrd) (hrd q hqr)]
        exact getO_some rfl (asR_live hg1).2.1
       obtain ⟨l1, l2, l3⟩ := asR_live hg1
       obtain ⟨l, hl, hob⟩ := H1.get hq1 l2 l3
       have hr := asR_rep (s0 := s0) hob
       rw [hg1] at hr
       have hpp := ev_rep RTm p
       rw [hag p hmp, hp] at hpp
       obtain ⟨l', dd, g1, g2, g3⟩ := hpp
       rw [← hl1, hl] at g1; cases g1
       have hxx := ev_rep RTm x
       rw [hag x hmx] at hxx
       have hcv := cellsT_ok hcs hxx
       obtain ⟨hfl, hfg⟩ := frzL_get hfs
       rw [List.length_set] at hfl
       have hcl : (a.eval x).cells.toList.length = fs.length := by rw [hfl]; simpa using hcv.1
       have hjl : j - c < vs0.length := (List.getElem?_eq_some_iff.1 hav).1
       have hcsl : cs.length = sz1 := by
        obtain ⟨_, _, hlay⟩ := hr
        rcases hlay with ⟨rfl, _⟩ | ⟨b, off, cc, ty', SS, _, _, _, _, _, _, hcell⟩
        ·simp at hes
        ·exact (hcell e cs hes).1
       have hsingle : ∀ k, k < vs0.length → kid s1 (c + k) ≠ none → c + k = j := by
        intro k hk hne
        have := (ownIn_spec s1 vs0.length c (c + k)).2 ⟨by omega, by omega, hne⟩
        rw [hown] at this
        simpa using this
       obtain ⟨b, off, cc, tt, a1, a2, a3, a4, H', lt⟩ := H1.writeR hq1 l1 hl hr hes hle (us := (a.eval x).cells.toList) hcl (n' := n') (fo' := fo')
        (fun k y hy => by
         obtain ⟨av', hav', hf1⟩ := hfg k y hy
         rw [List.getElem?_set] at hav'
         by_cases ek : j - c = k
         ·subst ek
          rw [if_pos rfl, if_pos hjl] at hav'
          cases hav'
          cases hf1
          obtain ⟨u, hu, hra⟩ := hcv.2 (j - c) av hav
          refine ⟨u, by simpa using hu, .inr ?_⟩
          rw [show c + (j - c) = j by omega]
          obtain ⟨s', hs'⟩ := Option.ne_none_iff_exists'.1 hjr.2.2
          refine ⟨s', hs', ?_⟩
          rcases hkind with ⟨oo, szo, rfl, rfl⟩ | ⟨szn, rfl, rfl⟩
          ·exact .inl ⟨oo, szo, rfl, hra.later lt1 (fun k y hy => by rw [hl1]; exact hy)⟩
          ·obtain ⟨ad, rfl⟩ := hra
           exact .inr ⟨sz', ad, rfl, rfl, fun _ e => (by cases e)⟩
         ·rw [if_neg ek] at hav'
          obtain ⟨u, hu, hra⟩ := hcv.2 k av' hav'
          refine ⟨u, by simpa using hu, .inl ⟨?_, (frz1_ok hf1 hra).later lt1⟩⟩
          have hk : k < vs0.length := (List.getElem?_eq_some_iff.1 hav').1
          cases hkid : kid s1 (c + k) with
          | none => rfl
          | some s' => exact absurd (hsingle k hk (by rw [hkid]; simp)) (by omega))
        (fun i j' o e1 => by
         obtain ⟨h1, h2⟩ := hfo1 i j' o e1
         exact .inr ⟨h1, by omega, by omega⟩)
        (fun i j' o e1 => by
         rcases hkind with ⟨oo, szo, _, rfl⟩ | ⟨szn, _, rfl⟩
         ·cases e1; exact .inr ⟨rfl, by omega, by omega⟩
         ·cases e1)
        (hn'.imp_right fun ⟨h1, h2, j2, h3⟩ => ⟨h1, h2, fun jj hjj hne => by
         have m1 := (ownIn_spec s1 sz1 0 jj).2 ⟨by omega, by omega, hne⟩
         have m2 := (ownIn_spec s1 sz1 0 j).2 ⟨by omega, by omega, hjr.2.2⟩
         rw [h3] at m1 m2
         simp only [List.mem_singleton] at m1 m2
         omega⟩)
        (fun _ _ _ => hin)
       rw [a1] at g2; cases g2
       refine ⟨locs, locs1, w.setRow b (cc.toList.take (off + e * sz1 + c) ++ (a.eval x).cells.toList ++ cc.toList.drop (off + e * sz1 + c + (a.eval x).cells.toList.length)).toArray, hl1, H, RTm, ?_, ?_, ?_, by simp⟩
       ·rw [putOs_app2]
        simp only [putOs, putO_lt hq1]
        exact H'
       ·rw [putOs_app2]
        simp only [putOs, putO_lt hq1]
        refine ⟨fun k hk hb => ?_, fun k hk hb => lt1.bar k hk (lt.bar k hk hb)⟩
        exact lt.same k hk (fun h => hb (lt1.bar k hk h))
       ·rw [hexec, g3, a4]
        exact run_storeR hd a2 (by rw [hcv.1, hvl]) (by omega) (cells_one (all_set (frzL_sure hfs) hav hsure) hcv)
      split at he
      ·rename_i sz' oo hss
       have hss := Nat.eq_of_beq_eq_true hss
       split at he
       ·rename_i fs hfs hbq
        obtain ⟨he, hfo1⟩ := foAt_out he
        obtain ⟨cs, hes, he⟩ := exC_out he
        split at he
        ·rename_i hle
         obtain ⟨n', hk, hin, hn'⟩ := orE_out he
         have hqo : oo ≠ q := fun e => by rw [e] at hbq; simp at hbq
         refine ⟨_, _, _, hk, fun ext w0 own0 t' h' a w Q hlen hag hrd _ R => ?_⟩
         have hrd' : ∀ i ∈ rdC h q, h'[i]? = h[i]? := fun i hi => hrd i (by simp [hi])
         obtain ⟨locs, locs', w', hl1, H, RTm, H', lt, hrun, hws⟩ := main fs cs sz' n' (some (e, j, oo)) hfs hes hle hss hfo1 hin hn' rfl (.inl ⟨oo, sz', rfl, rfl⟩) ext w0 own0 t' h' a w hag hrd' R
         obtain ⟨locs2, hl2, H2, lt2⟩ := H'.close q
         have hqlt : q < h.length ∧ q < h'.length := by
          have h1 : h[q]? = some (getO h q) := getO_some rfl (asR_live hg).2.1
          exact ⟨(List.getElem?_eq_some_iff.1 h1).1, (List.getElem?_eq_some_iff.1 ((hrd' q (hmemq h)).trans h1)).1⟩
         have hwlt : ∀ p ∈ preW h q fo (.ofl sz' oo) ++ [(q, Ob.r s1 et1 sz1 (es1.set e (overF cs c fs)) n' (some (e, j, oo)))], p.1 < h.length ∧ p.1 < h'.length := fun p hp => by
          rcases List.mem_append.1 hp with hp | hp
          ·exact preW_lt hrd' p hp
          ·simp only [List.mem_singleton] at hp; subst hp; exact hqlt
         have hcl := closeW_congr (h := putOs h (preW h q fo (.ofl sz' oo) ++ [(q, Ob.r s1 et1 sz1 (es1.set e (overF cs c fs)) n' (some (e, j, oo)))])) (h' := putOs h' (preW h q fo (.ofl sz' oo) ++ [(q, Ob.r s1 et1 sz1 (es1.set e (overF cs c fs)) n' (some (e, j, oo)))])) (o := q) (fun i hi => by
          refine putOs_eq _ h h' hwlt (hrd i ?_)
          have hg2 : getO (putOs h (preW h q fo (.ofl sz' oo) ++ [(q, Ob.r s1 et1 sz1 (es1.set e (overF cs c fs)) n' (some (e, j, oo)))])) q = Ob.r s1 et1 sz1 (es1.set e (overF cs c fs)) n' (some (e, j, oo)) := by
           have h1 : (putOs h (preW h q fo (.ofl sz' oo)))[q]? = some (getO (putOs h (preW h q fo (.ofl sz' oo))) q) := getO_some rfl (asR_live hg1).2.1
           rw [putOs_app2]
           simp only [putOs, putO_lt h1, getO, List.getD_eq_getElem?_getD, set_get h1, if_pos, Option.getD_some]
          unfold rdC at hi
          rw [hg2] at hi
          simp only [List.mem_cons, List.not_mem_nil, or_false] at hi
          rcases hi with rfl | rfl
          ·exact List.mem_cons_of_mem _ (hmemq h)
          ·simp)
         rw [hcl] at H2 lt2
         rw [putOs_app2 h' (_ ++ _)]
         refine wp_skip' hrun (Rep.mkput R RTm H2 ⟨fun k hk' hb => ?_, fun k hk' hb => ?_⟩ (fun k y hy => by rw [hl2, hl1]; exact hy) o.dst .und undef trivial)
         ·exact lt.same k hk' hb
         ·exact lt.bar k hk' (lt2.bar k (Nat.lt_of_lt_of_le hk' hws) hb)
        ·exact he.elim
       ·exact he.elim
      ·rename_i sz' hss
       have hss := Nat.eq_of_beq_eq_true hss
       split at he
       ·rename_i fs hfs
        obtain ⟨he, hfo1⟩ := foAt_out he
        obtain ⟨cs, hes, he⟩ := exC_out he
        split at he
        ·rename_i hle
         obtain ⟨n', hk, hin, hn'⟩ := orE_out he
         refine ⟨_, _, _, hk, fun ext w0 own0 t' h' a w Q hlen hag hrd _ R => ?_⟩
         obtain ⟨locs, locs', w', hl1, H, RTm, H', lt, hrun, hws⟩ := main fs cs sz' n' none hfs hes hle hss hfo1 hin hn' rfl (.inr ⟨sz', rfl, rfl⟩) ext w0 own0 t' h' a w hag hrd R
         exact wp_skip' hrun (Rep.mkput R RTm H' lt (fun k y hy => by rw [hl1]; exact hy) o.dst .und undef trivial)
        ·exact he.elim
       ·exact he.elim
      ·exact he.elim
     ·exact he.elim
    ·exact he.elim
   ·exact he.elim
  ·exact he.elim
 ·exact he.elim
end
section
def szOf : Nat → Nat
 | 1 => 8
 | 2 => 10
 | 3 => 19
 | 4 => 1
 | 6 => 10
 | _ => 0
def momK (s' sz k : Nat) : Nat :=
 match kid.kids.find? fun p => Nat.beq p.2.1 k && (Nat.beq p.2.2 s' && Nat.beq (szOf p.1) sz) with
 | some p => p.1
 | none => 0
def momS (h : List Ob) (sz : Nat) : Nat → List AV → Nat
 | _, [] => 0
 | k, .ofl _ oo :: r => momK (match getO h oo with | .r s _ _ _ _ _ => s | _ => 0) sz k
 | k, _ :: r => momS h sz (k + 1) r
def evLoadD (P : Program) (ty : TypeId) (x : TV) (h : List Ob) (id : Nat) (K : OpK) : Prop :=
 match x with
 | .one (.ptr o e c ety) =>
  match getO h o with
  | .r _ _ _ _ _ _ => evLoadR P ty o e c ety h id K
  | _ => evLoad P ty x h K
 | _ => evLoad P ty x h K
theorem loadD_ok {P : Program} {o : Oper} {ty : TypeId} {x : Operand} (hop : o.op = .load ty x) {t : List TV} {h : List Ob} {id : Nat} {K : OpK} (he : evLoadD P ty (ev t x) h id K) : ∃ v wr rd, K v wr rd ∧ OpOK P o t h id v wr rd := by
 unfold evLoadD at he
 split at he
 ·split at he
  ·exact loadR_ok hop ‹_› he
  ·exact load_ok hop he
 ·exact load_ok hop he
def evStoreD (P : Program) (ty : TypeId) (p v : TV) (h : List Ob) (K : OpK) : Prop :=
 match p, cellsT v with
 | .one (.ptr o e c ety), some vs0 =>
  match getO h o with
  | .r _ _ _ _ _ _ => evStoreR P ty o e c ety vs0 0 h K
  | .f _ sz _ =>
   match frzL vs0 with
   | some _ => evStore P ty p v h K
   | none => evStoreR P ty o e c ety vs0 (momS h sz c vs0) h K
  | _ => evStore P ty p v h K
 | _, _ => False
theorem storeD_ok {P : Program} {o : Oper} {ty : TypeId} {p x : Operand} (hop : o.op = .store ty p x) {t : List TV} {h : List Ob} {id : Nat} {K : OpK} (he : evStoreD P ty (ev t p) (ev t x) h K) : ∃ v wr rd, K v wr rd ∧ OpOK P o t h id v wr rd := by
 unfold evStoreD at he
 split at he
 ·rename_i q e c ety vs0 hp hc
  split at he
  ·exact storeR_ok hop hp hc he
  ·split at he
   ·exact store_ok hop he
   ·exact storeR_ok hop hp hc he
  ·exact store_ok hop he
 ·exact he.elim
def evLenD (P : Program) (ty : TypeId) (x : TV) (h : List Ob) (K : OpK) : Prop :=
 match x with
 | .one (.ofl _ o) =>
  match getO h o with
  | .r _ _ _ _ _ _ => evLenR P ty x h K
  | _ => evLenO P ty x h K
 | _ => evLenO P ty x h K
theorem lenD_ok {P : Program} {o : Oper} {ty : TypeId} {x : Operand} (hop : o.op = .call { callee := .builtin .len, args := #[x], argTypes := #[ty] }) {t : List TV} {h : List Ob} {id : Nat} {K : OpK} (he : evLenD P ty (ev t x) h K) : ∃ v wr rd, K v wr rd ∧ OpOK P o t h id v wr rd := by
 unfold evLenD at he
 split at he
 ·rename_i hx
  split at he
  ·exact lenR_ok hop he
  ·exact lenO_ok hop he
 ·exact lenO_ok hop he
def evIndexAddrD (P : Program) (ty : TypeId) (x i : TV) (h : List Ob) (K : OpK) : Prop :=
 match x with
 | .one (.ofl _ o) =>
  match getO h o with
  | .r _ _ _ _ _ _ => evIndexAddrR P ty x i h K
  | _ => evIndexAddrO P ty x i h K
 | _ => evIndexAddrO P ty x i h K
theorem indexAddrD_ok {P : Program} {o : Oper} {ty : TypeId} {x i : Operand} (hop : o.op = .indexAddr ty x i) {t : List TV} {h : List Ob} {id : Nat} {K : OpK} (he : evIndexAddrD P ty (ev t x) (ev t i) h K) : ∃ v wr rd, K v wr rd ∧ OpOK P o t h id v wr rd := by
 unfold evIndexAddrD at he
 split at he
 ·rename_i hx
  split at he
  ·exact indexAddrR_ok hop he
  ·exact indexAddrO_ok hop he
 ·exact indexAddrO_ok hop he
end
section
def bytesOfT (P : Program) (t : TypeId) : Nat := ((P.info? t).map (·.bytes)).getD 0
theorem newrow_at {P : Program} {ext : Nat → Prop} {w0 : World} {own0 : Own0} {t : List TV} {h : List Ob} {a : Act} {w w' : World} (R : Rep P ext w0 own0 ⟨t, h⟩ a w) {locs : Locs} (H : RepH P ext w0 own0 locs h w) (RTm : RepT w (Bar ext locs h) locs t a) {id : Nat} (hf : freshO h id) {sz : Nat} {es : List (List FV)} {arr : Array Value} {ty : TypeId} {cap : Nat}
  (hold : ∀ b, b < w.heap.size → w'.heap[b]? = w.heap[b]?) (hsz : w.heap.size ≤ w'.heap.size) (hnew : w'.heap[w.heap.size]? = some (.cells arr ty (0, 0))) (hos : w'.os = w.os) (htape : w'.tape = w.tape) (hout : w'.output = w.output)
  (hc : es.length ≤ cap) (harr : cap * sz ≤ arr.size)
  (hrr : ∀ (i : Nat) (e : List FV), es[i]? = some e → e.length = sz ∧ ∀ (j : Nat) (x : FV), e[j]? = some x → ∃ v, arr[i * sz + j]? = some v ∧ RF w (Bar ext locs h) x v) (dst : Option Tmp) :
  Rep P ext w0 own0 ⟨putT t dst (.one (.ofl sz id)), putO h id (.f ty sz es)⟩ (a.put dst (.slice (some ⟨w.heap.size, 0, none⟩) es.length cap)) w' := by
 obtain ⟨hn, _⟩ := fresh_none H hf
 obtain ⟨H', lt⟩ := H.new (w' := w') hf hold hsz hos htape hout ⟨some ⟨w.heap.size, 0, none⟩, cap, sz, es.length⟩ (.f ty sz es)
  (fun _ d hd => by cases hd; exact Nat.le_refl _) (fun lt => ⟨rfl, rfl, .inr ⟨w.heap.size, 0, arr, ty, rfl, hnew, .inr rfl, by simpa using harr, hc, fun i e he => by
   obtain ⟨h1, h2⟩ := hrr i e he
   refine ⟨h1, fun j x hx => ?_⟩
   obtain ⟨u, hu, hra⟩ := h2 j x hx
   exact ⟨u, by simpa using hu, hra.later lt⟩⟩⟩)
 exact Rep.mkput R RTm H' lt (addL_mono hn) dst _ _ ⟨⟨some ⟨w.heap.size, 0, none⟩, cap, sz, es.length⟩, _, cap, addL_at, rfl, rfl, hc, Nat.le_refl _, .inr rfl⟩
theorem newrow_ok {P : Program} {ext : Nat → Prop} {w0 : World} {own0 : Own0} {t : List TV} {h : List Ob} {a : Act} {w w' : World} (R : Rep P ext w0 own0 ⟨t, h⟩ a w) {id : Nat} (hf : freshO h id) {sz : Nat} {es : List (List FV)} {arr : Array Value} {ty : TypeId} {cap : Nat}
  (hold : ∀ b, b < w.heap.size → w'.heap[b]? = w.heap[b]?) (hsz : w.heap.size ≤ w'.heap.size) (hnew : w'.heap[w.heap.size]? = some (.cells arr ty (0, 0))) (hos : w'.os = w.os) (htape : w'.tape = w.tape) (hout : w'.output = w.output)
  (hc : es.length ≤ cap) (harr : cap * sz ≤ arr.size)
  (hr : ∀ locs, RepH P ext w0 own0 locs h w → RepT w (Bar ext locs h) locs t a → ∀ (i : Nat) (e : List FV), es[i]? = some e → e.length = sz ∧ ∀ (j : Nat) (x : FV), e[j]? = some x → ∃ v, arr[i * sz + j]? = some v ∧ RF w (Bar ext locs h) x v) (dst : Option Tmp) :
  Rep P ext w0 own0 ⟨putT t dst (.one (.ofl sz id)), putO h id (.f ty sz es)⟩ (a.put dst (.slice (some ⟨w.heap.size, 0, none⟩) es.length cap)) w' := by
 obtain ⟨locs, H, RTm⟩ := R.repT
 exact newrow_at R H RTm hf hold hsz hnew hos htape hout hc harr (hr locs H RTm) dst
def evMakeSlice (P : Program) (ty : TypeId) (l c : TV) (id : Nat) (K : OpK) : Prop :=
 match P.underlying ty, l, c with
 | some (.slice e), .one (.fz (.int _ n)), .one (.fz (.int _ m)) =>
  match zeroA P e with
  | some z =>
   match frzL z with
   | some fs => if fs.length = P.cellsOf e ∧ 0 < P.cellsOf e ∧ 0 < bytesOfT P e ∧ (P.underlying e).isSome = true then
     (0 ≤ n ∧ n ≤ m ∧ (bytesOfT P e : Int) * m ≤ 281474976710656) ∧ K (.one (.ofl (P.cellsOf e) id)) [(id, .f e (P.cellsOf e) (List.replicate n.toNat fs))] []
    else False
   | none => False
  | none => False
 | _, _, _ => False
theorem madeCells_get (z : Array Value) (n k : Nat) (hk : k < n) (hz : 0 < z.size) : (madeCells z n)[k]? = z[k % z.size]? := by
 have h1 : k % z.size < z.size := Nat.mod_lt _ hz
 simp [madeCells, hk, h1]
theorem makeSlice_ok {P : Program} {o : Oper} {ty : TypeId} {lo co : Operand} (hop : o.op = .makeSlice ty lo co) {t : List TV} {h : List Ob} {id : Nat} {K : OpK} (he : evMakeSlice P ty (ev t lo) (ev t co) id K) :
  ∃ v wr rd, K v wr rd ∧ OpOK P o t h id v wr rd := by
 have hml : lo ∈ o.op.operands := by rw [hop]; simp [Op.operands]
 have hmc : co ∈ o.op.operands := by rw [hop]; simp [Op.operands]
 unfold evMakeSlice at he
 split at he
 ·rename_i e k n k' m ht hl hc
  split at he
  ·rename_i z hz
   split at he
   ·rename_i fs hfs
    split at he
    ·rename_i hcond
     obtain ⟨hfl, hpos, hby, hie⟩ := hcond
     obtain ⟨⟨h0, hnm, hbytes⟩, hk⟩ := he
     obtain ⟨i, zv, hi, hzv, hzr⟩ := zeroA_ok hz
     refine ⟨_, _, _, hk, fun ext w0 own0 t' h' a w Q hlen hag hrd hf R => ?_⟩
     obtain ⟨locs, H, RTm⟩ := R.repT
     have e1 := ev_rep RTm lo
     rw [hag lo hml, hl] at e1
     have e1 := inv_int e1
     have e2 := ev_rep RTm co
     rw [hag co hmc, hc] at e2
     have e2 := inv_int e2
     have hcells : P.cellsOf e = i.size := by simp [Program.cellsOf, hi]
     have hbt : bytesOfT P e = i.bytes := by simp [bytesOfT, hi]
     rw [hbt] at hbytes hby
     have hm63 : m ≤ 9223372036854775807 := by
      have h1 : (1 : Int) * m ≤ (i.bytes : Int) * m := Int.mul_le_mul_of_nonneg_right (by omega) (by omega)
      omega
     have hzsz : zv.cells.size = i.size := by
      have := (hzr w (Bar ext locs h') locs).1
      have h2 := (frzL_ok (w := w) (B := Bar ext locs h') (locs := locs) hfs).1
      omega
     have hrun := run_make (P := P) w ty e i zv ht hi hzv k k' n m h0 hnm hbytes hm63
     refine wp_value (v := .slice (some ⟨w.heap.size, 0, none⟩) n.toNat m.toNat) (w' := w.alloc (.cells (madeCells zv.cells (m.toNat * i.size)) e)) ?_ ?_
     ·unfold execOp; rw [hop]; simp [e1, e2, hrun]
     ·have := newrow_ok R hf (sz := P.cellsOf e) (es := List.replicate n.toNat fs) (arr := madeCells zv.cells (m.toNat * i.size)) (ty := e) (cap := m.toNat) (w' := w.alloc (.cells (madeCells zv.cells (m.toNat * i.size)) e))
       (fun b hb => alloc_old w _ b hb) (by rw [alloc_size]; omega) (alloc_new w _) rfl rfl rfl (by simp; omega) (by rw [size_madeCells, hcells]; exact Nat.le_refl _) (fun locs H RTm q el hq => by
        have hq' : q < n.toNat ∧ el = fs := by
         rw [List.getElem?_replicate] at hq
         split at hq
         ·cases hq; exact ⟨‹_›, rfl⟩
         ·cases hq
        obtain ⟨hqn, rfl⟩ := hq'
        refine ⟨hfl, fun j x hx => ?_⟩
        have hj : j < i.size := by
         rcases Nat.lt_or_ge j el.length with h' | h'
         ·omega
         ·rw [List.getElem?_eq_none h'] at hx; cases hx
        have hlt : q * i.size + j < m.toNat * i.size := by
         have h7 : (q + 1) * i.size ≤ m.toNat * i.size := Nat.mul_le_mul_right _ (by omega)
         rw [Nat.add_mul, Nat.one_mul] at h7
         omega
        obtain ⟨u, hu, hr⟩ := (frzL_ok (w := w) (B := Bar ext locs h') (locs := locs) hfs).2 zv.cells.toList (fun j x hx => by obtain ⟨u, hu, hr⟩ := (hzr w _ locs).2 j x hx; exact ⟨u, by simpa using hu, hr⟩) j x hx
        refine ⟨u, ?_, hr⟩
        rw [hcells, madeCells_get _ _ _ hlt (by omega), hzsz, Nat.mul_comm, Nat.mul_add_mod, Nat.mod_eq_of_lt hj]
        simpa using hu) o.dst
      simpa [putOs] using this
    ·exact he.elim
   ·exact he.elim
  ·exact he.elim
 ·exact he.elim
def seqF (P : Program) (e : TypeId) (t : List TV) : Nat → List (Nat × Operand) → Option (List (List FV))
 | _, [] => some []
 | k, (i, x) :: r =>
  if i = k then
   match cellsT (ev t x) with
   | some cs =>
    if cs.length = P.cellsOf e then
     match frzL (fixN (kinds P e) cs) with
     | some fs => match seqF P e t (k + 1) r with
      | some l => some (fs :: l)
      | none => none
     | none => none
    else none
   | none => none
  else none
def evBuildSlice (P : Program) (ty : TypeId) (len : Nat) (t : List TV) (parts : List (Nat × Operand)) (id : Nat) (K : OpK) : Prop :=
 match P.underlying ty with
 | some (.slice e) =>
  match seqF P e t 0 parts, zeroA P e with
  | some es, some _ => if parts.length = len ∧ len * P.cellsOf e ≤ 16777216 ∧ (P.underlying e).isSome = true then K (.one (.ofl (P.cellsOf e) id)) [(id, .f e (P.cellsOf e) es)] [] else False
  | _, _ => False
 | _ => False
theorem fill_seq {sz : Nat} : ∀ (qs : List (Nat × Value)) (k : Nat) (arr : Array Value), (∀ (i : Nat) (p : Nat × Value), qs[i]? = some p → p.1 = k + i ∧ p.2.cells.size = sz) → (k + qs.length) * sz ≤ arr.size →
  ∃ out, Instr.fill (fun i => some (i * sz, sz)) arr qs = some out ∧ out.size = arr.size ∧ (∀ m, m < k * sz → out[m]? = arr[m]?) ∧
   ∀ (i : Nat) (p : Nat × Value), qs[i]? = some p → ∀ j, j < sz → out[(k + i) * sz + j]? = p.2.cells[j]?
 | [], k, arr, _, _ => ⟨arr, rfl, rfl, fun _ _ => rfl, by simp⟩
 | (n, v) :: qs, k, arr, hq, hle => by
  obtain ⟨h1, h2⟩ := hq 0 _ rfl
  simp only [Nat.add_zero] at h1
  subst h1
  simp only at h2
  simp only [List.length_cons] at hle
  have hle1 : (n + 1) * sz ≤ arr.size := Nat.le_trans (Nat.mul_le_mul_right _ (by omega)) hle
  rw [Nat.add_mul, Nat.one_mul] at hle1
  have hfold : v.cells.zipIdx.foldl (fun cs (c, j) => cs.setIfInBounds (n * sz + j) c) arr = (v.cells.toList.zipIdx 0).foldl (fun cs (p : Value × Nat) => cs.setIfInBounds (n * sz + p.2) p.1) arr := by
   rw [← Array.foldl_toList, Array.toList_zipIdx]
  obtain ⟨h5, h6⟩ := foldl_set (n * sz) v.cells.toList 0 arr
  rw [← hfold] at h5 h6
  obtain ⟨out, h7, h8, h9, h10⟩ := fill_seq qs (n + 1) (v.cells.zipIdx.foldl (fun cs (c, j) => cs.setIfInBounds (n * sz + j) c) arr) (fun i p hi => by
   obtain ⟨h, h'⟩ := hq (i + 1) p hi; exact ⟨by omega, h'⟩) (by rw [h5]; rw [show n + 1 + qs.length = n + (qs.length + 1) by omega]; exact hle)
  refine ⟨out, ?_, by rw [h8, h5], fun m hm => ?_, fun i p hi j hj => ?_⟩
  ·unfold Instr.fill
   simp only
   rw [if_neg (by rw [h2]; simp; omega)]
   exact h7
  ·rw [h9 m (by rw [Nat.add_mul]; omega), h6 m (by omega), if_neg (by omega)]
  ·cases i with
   | zero =>
    cases hi
    simp only [Nat.add_zero]
    rw [h9 _ (by rw [Nat.add_mul, Nat.one_mul]; omega), h6 _ (by omega), if_pos (by simp only [Array.length_toList, h2]; omega)]
    simp
   | succ i =>
    have := h10 i p hi j hj
    rw [show n + (i + 1) = n + 1 + i by omega]
    exact this
theorem seqF_ok {P : Program} {e : TypeId} {w : World} {B : Nat → Prop} {locs : Locs} {t : List TV} {a : Act} (hr : ∀ x : Operand, RT w B locs (ev t x) (a.eval x)) : ∀ {parts : List (Nat × Operand)} {k : Nat} {es : List (List FV)}, seqF P e t k parts = some es →
  es.length = parts.length ∧ ∀ (i : Nat) (p : Nat × Operand), parts[i]? = some p → p.1 = k + i ∧ (a.eval p.2).cells.size = P.cellsOf e ∧ ∃ el, es[i]? = some el ∧ el.length = P.cellsOf e ∧ ∀ (j : Nat) (x : FV), el[j]? = some x → ∃ u, (a.eval p.2).cells[j]? = some u ∧ RF w B x u
 | [], k, es, h => by cases h; exact ⟨rfl, by simp⟩
 | (n, x) :: r, k, es, h => by
  unfold seqF at h
  split at h
  ·rename_i hn
   split at h
   ·rename_i cs hcs
    split at h
    ·rename_i hcl
     split at h
     ·rename_i fs hfs
      split at h
      ·rename_i l hl
       cases h
       obtain ⟨h1, h2⟩ := seqF_ok hr hl
       refine ⟨by simp [h1], fun i p hi => ?_⟩
       cases i with
       | zero =>
        cases hi
        have hc := cellsT_ok hcs (hr x)
        have hc' := fix_reps (P := P) (ty := e) hc
        obtain ⟨h3, h4⟩ := frzL_ok (w := w) (B := B) (locs := locs) hfs
        refine ⟨by simpa using hn, by rw [hc.1, hcl], fs, rfl, by rw [h3, ← hc'.1, hc.1, hcl], fun j y hy => ?_⟩
        obtain ⟨u, hu, hra⟩ := h4 (a.eval x).cells.toList (fun j y hy => by obtain ⟨u, hu, hra⟩ := hc'.2 j y hy; exact ⟨u, by simpa using hu, hra⟩) j y hy
        exact ⟨u, by simpa using hu, hra⟩
       | succ i =>
        obtain ⟨h3, h4⟩ := h2 i p hi
        exact ⟨by omega, h4⟩
      ·cases h
     ·cases h
    ·cases h
   ·cases h
  ·cases h
theorem seqF_congr {P : Program} {e : TypeId} {t t' : List TV} : ∀ (ps : List (Nat × Operand)) (k : Nat), (∀ x ∈ ps.map (·.2), ev t x = ev t' x) → seqF P e t k ps = seqF P e t' k ps
 | [], _, _ => rfl
 | (i, x) :: r, k, h => by
  unfold seqF
  rw [h x (by simp), seqF_congr r (k + 1) (fun y hy => h y (by simp [hy]))]
theorem buildSlice_ok {P : Program} {o : Oper} {ty : TypeId} {len : Nat} {parts : Array (Nat × Operand)} (hop : o.op = .buildSlice ty len parts) {t : List TV} {h : List Ob} {id : Nat} {K : OpK} (he : evBuildSlice P ty len t parts.toList id K) :
  ∃ v wr rd, K v wr rd ∧ OpOK P o t h id v wr rd := by
 unfold evBuildSlice at he
 split at he
 ·rename_i e ht
  split at he
  ·rename_i es z hes hz
   split at he
   ·rename_i hcond
    obtain ⟨hpl, hbig, hie⟩ := hcond
    obtain ⟨d, hd⟩ := Option.isSome_iff_exists.1 hie
    obtain ⟨it, zv, hi, hzv, hzr⟩ := zeroA_ok hz
    refine ⟨_, _, _, he, fun ext w0 own0 t' h' a w Q hlen hag hrd hf R => ?_⟩
    obtain ⟨locs, H, RTm⟩ := R.repT
    have hes' : seqF P e t' 0 parts.toList = some es := by
     rw [← seqF_congr parts.toList 0 (fun x hx => (hag x (by rw [hop]; simpa [Op.operands] using hx)).symm)]; exact hes
    obtain ⟨h1, h2⟩ := seqF_ok (fun x => ev_rep RTm x) hes'
    let base : Array Value := (Array.range (len * P.cellsOf e)).map fun k => ((if len * P.cellsOf e = 0 then #[] else zv.cells)[k % (if len * P.cellsOf e = 0 then #[] else zv.cells).size]!)
    have hbase : base.size = len * P.cellsOf e := by simp [base]
    obtain ⟨out, h3, h4, h5, h6⟩ := fill_seq (sz := P.cellsOf e) ((parts.map fun (i, x) => (i, a.eval x)).toList) 0 base (fun i p hp => by
     simp only [Array.toList_map, List.getElem?_map, Option.map_eq_some_iff] at hp
     obtain ⟨q, hq, rfl⟩ := hp
     obtain ⟨h7, h8, _⟩ := h2 i q hq
     exact ⟨by simpa using h7, h8⟩) (by rw [hbase]; simp [← hpl])
    refine wp_value (v := .slice (some ⟨w.heap.size, 0, none⟩) len len) (w' := w.alloc (.cells out e)) ?_ ?_
    ·unfold execOp; rw [hop]
     have hb : ¬ (len * P.cellsOf e > 2 ^ 24) := by omega
     have hb2 : ¬ (16777216 < len * P.cellsOf e) := by omega
     by_cases h0 : len * P.cellsOf e = 0
     ·have e3 := h3
      simp only [base, h0, if_true] at e3
      simp only [Instr.buildSlice, Sem.run_bind, run_underlying ht, Result.andThen, run_sizeOf hd]
      simp [h0, newRow] at e3 ⊢
      simp [e3]
     ·have e3 := h3
      simp only [base, h0, if_false] at e3
      simp only [Instr.buildSlice, Sem.run_bind, run_underlying ht, Result.andThen, run_sizeOf hd]
      simp [h0, hb2, newRow, zeroValue, typeInfo, hi, hzv] at e3 ⊢
      simp [e3]
    ·have := newrow_ok R hf (sz := P.cellsOf e) (es := es) (arr := out) (ty := e) (cap := len) (w' := w.alloc (.cells out e))
      (fun b hb => alloc_old w _ b hb) (by rw [alloc_size]; omega) (alloc_new w _) rfl rfl rfl (by rw [h1]; omega) (by rw [h4, hbase]; exact Nat.le_refl _) (fun locs H RTm i el hi => by
       obtain ⟨h1, h2⟩ := seqF_ok (fun x => ev_rep RTm x) hes'
       have hil : i < parts.toList.length := by
        rcases Nat.lt_or_ge i es.length with h' | h'
        ·omega
        ·rw [List.getElem?_eq_none h'] at hi; cases hi
       obtain ⟨h7, h8, el', h9, h10, h11⟩ := h2 i parts.toList[i] (List.getElem?_eq_getElem _)
       rw [hi] at h9; cases h9
       refine ⟨h10, fun j x hx => ?_⟩
       have hj : j < P.cellsOf e := by
        rcases Nat.lt_or_ge j el.length with h' | h'
        ·omega
        ·rw [List.getElem?_eq_none h'] at hx; cases hx
       obtain ⟨u, hu, hr⟩ := h11 j x hx
       refine ⟨u, ?_, hr⟩
       have := h6 i (parts.toList[i].1, a.eval parts.toList[i].2) (by simp [List.getElem?_eq_getElem hil]) j hj
       rw [Nat.zero_add] at this
       rw [this]; exact hu) o.dst
     have hel : es.length = len := by rw [h1]; exact hpl
     rw [hel] at this
     simpa [putOs] using this
   ·exact he.elim
  ·exact he.elim
 ·exact he.elim
end
section
def ownRow (h : List Ob) (want : Nat) : TV → Option (Option (Nat × TypeId) × List (List FV))
 | .one (.nsl _) => some (none, [])
 | .one (.ofl sz o) =>
  match getO h o with
  | .f et sz' es => if sz' = sz ∧ sz = want then some (some (o, et), es) else none
  | _ => none
 | _ => none
def rowSz (want : Nat) : TV → Bool
 | .one (.fz (.sl sz _)) => sz == want
 | .one (.ofl sz _) => sz == want
 | .one (.nsl _) => true
 | .one (.fz (.str _)) => want == 1
 | _ => false
def srcOf (P : Program) (h : List Ob) (ty2 : TypeId) (x : TV) : Option (Nat × List (List FV) × List Nat) :=
 match P.underlying ty2, x with
 | some .string, .one (.fz (.str s)) => some (1, s.data.toList.map fun b => [FV.int .u8 (b.toNat : Int)], [])
 | some (.slice _), x => rowOf h x
 | _, _ => none
def evAppend (P : Program) (ty ty2 : TypeId) (s x : TV) (h : List Ob) (id : Nat) (K : OpK) : Prop :=
 match P.underlying ty with
 | some (.slice e) =>
  match ownRow h (P.cellsOf e) s, srcOf P h ty2 x with
  | some (q, es), some (sz, es2, rd) =>
   if rowSz (P.cellsOf e) x = true ∧ (0 < bytesOfT P e ∧ bytesOfT P e ≤ 1000000) ∧ (zeroA P e).map List.length = some (P.cellsOf e) ∧ (P.underlying e).isSome = true then
    ((es.length + es2.length) * bytesOfT P e ≤ 220000000000000) ∧
     match q with
     | some (o, et) => K (.one (.ofl (P.cellsOf e) id)) [(o, .no), (id, .f (if et = e then e else 0) (P.cellsOf e) (es ++ es2))] (o :: rd)
     | none => K (.one (.ofl (P.cellsOf e) id)) [(id, .f e (P.cellsOf e) (es ++ es2))] rd
   else False
  | _, _ => False
 | _ => False
theorem RowAt.first {P : Program} {w w' : World} {B : Nat → Prop} {sz : Nat} {es : List (List FV)} {v : Value} {a : Option Addr} {c : Nat} {news : List Value} (h : RowAt w B sz es v a c news) (hw : ∀ d, w'.cell? d = w.cell? d) :
  (Builtin.firstCells sz es.length v).run P w' = .ok news.toArray w' := by
 rw [h.val]
 cases a with
 | none =>
  have : news = [] := by
   cases news with
   | nil => rfl
   | cons u us => obtain ⟨d, hd, _⟩ := h.cell 0 u rfl; cases hd
  subst this
  simp [Builtin.firstCells]
 | some d =>
  refine run_firstCells_some (P := P) w' sz es.length d es.length c news h.len fun j v hv => ?_
  obtain ⟨d', hd', hsp, hc⟩ := h.cell j v hv
  cases hd'
  rw [hw, add_eq d hsp]
  exact hc
structure Src (P : Program) (w : World) (B : Nat → Prop) (t2 : TypeId) (sz : Nat) (es : List (List FV)) (v : Value) (news : List Value) : Prop where
 ty : (∃ e2, P.underlying t2 = some (.slice e2)) ∨ P.underlying t2 = some .string
 lenO : ∀ w', (Builtin.lenOf v).run P w' = .ok es.length w'
 first : ∀ w', (∀ d, w'.cell? d = w.cell? d) → (Builtin.firstCells sz es.length v).run P w' = .ok news.toArray w'
 len : news.length = es.length * sz
 one : ∀ u ∈ news, u.oneCell' = true
 elem : ∀ (i : Nat) (e : List FV), es[i]? = some e → e.length = sz ∧ ∀ (j : Nat) (x : FV), e[j]? = some x → ∃ u, news[i * sz + j]? = some u ∧ RF w B x u
theorem RowAt.src {P : Program} {w : World} {B : Nat → Prop} {t2 e2 : TypeId} (ht2 : P.underlying t2 = some (.slice e2)) {sz : Nat} {es : List (List FV)} {v : Value} {a : Option Addr} {c : Nat} {news : List Value} (h : RowAt w B sz es v a c news) : Src P w B t2 sz es v news :=
 ⟨.inl ⟨e2, ht2⟩, fun w' => by rw [h.val]; rfl, fun w' hw => h.first hw, h.len, h.one, h.elem⟩
theorem str_src {P : Program} {w : World} {B : Nat → Prop} {t2 : TypeId} (ht2 : P.underlying t2 = some .string) (s : ByteArray) : Src P w B t2 1 (s.data.toList.map fun b => [FV.int .u8 (b.toNat : Int)]) (.string s) (s.data.toList.map fun b => Value.int .u8 b.toNat) := by
 have hl : (s.data.toList.map fun b => [FV.int .u8 (b.toNat : Int)]).length = s.size := by rw [List.length_map, Array.length_toList]; rfl
 refine ⟨.inr ht2, fun w' => by rw [hl]; rfl, fun w' _ => ?_, by simp, fun u hu => ?_, fun i e he => ?_⟩
 ·rw [hl]
  simp [Builtin.firstCells]
  apply Array.ext'
  simp
 ·simp only [List.mem_map] at hu
  obtain ⟨b, _, rfl⟩ := hu
  rfl
 ·simp only [List.getElem?_map, Option.map_eq_some_iff] at he
  obtain ⟨b, hb, rfl⟩ := he
  refine ⟨rfl, fun j x hx => ?_⟩
  cases j with
  | zero => cases hx; exact ⟨_, by simp [hb], RF.int _ _⟩
  | succ j => simp at hx
section
variable {P : Program} {ext : Nat → Prop} {w0 : World} {own0 : Own0} {locs : Locs} {h : List Ob} {w : World}
theorem src_ok {h0 : List Ob} {ty2 : TypeId} {x : TV} {sz want : Nat} {es : List (List FV)} {rd : List Nat} (hx : srcOf P h0 ty2 x = some (sz, es, rd)) (hrs : rowSz want x = true) (hrd : ∀ i ∈ rd, h[i]? = h0[i]?) (H : RepH P ext w0 own0 locs h w) {v : Value}
  (hv : RT w (Bar ext locs h) locs x v) : ∃ news, Src P w (Bar ext locs h) ty2 want es v news := by
 unfold srcOf at hx
 split at hx
 ·rename_i s ht
  cases hx
  cases inv_str hv
  have : want = 1 := by simpa [rowSz] using hrs
  subst this
  exact ⟨_, str_src ht s⟩
 ·rename_i e2 _ ht _
  obtain ⟨a, c, news, hn⟩ := rowOf_ok hx hrd H hv
  have : ∃ a c news, RowAt w (Bar ext locs h) want es v a c news := by
   unfold rowOf at hx
   unfold rowSz at hrs
   split at hx
   ·cases hx
    have : sz = want := by simpa using hrs
    rw [← this]; exact ⟨a, c, news, hn⟩
   ·cases hx
    have hv := hn.val
    subst hv
    exact ⟨a, c, [], RowAt.nil _ a c⟩
   ·rename_i sz1 o1
    have h1 : sz1 = want := by simpa using hrs
    have h2 : sz = sz1 := by
     split at hx
     ·split at hx
      ·cases hx; rfl
      ·cases hx
     ·split at hx
      ·cases hx; rfl
      ·cases hx
     ·cases hx
    rw [← h1, ← h2]; exact ⟨a, c, news, hn⟩
   ·cases hx
  obtain ⟨a, c, news, hn⟩ := this
  exact ⟨news, hn.src (by assumption)⟩
 ·cases hx
end
theorem growslice_fine {need old bytes : Nat} (h : old < need) (hb : (need * 5 + 2048) * bytes ≤ 1125899906842624) : Builtin.nextslicecap need old * bytes ≤ 281474976710656 := by
 have h4 : 4 * Builtin.nextslicecap need old ≤ need * 5 + 2048 := by
  unfold Builtin.nextslicecap
  split
  ·omega
  ·split
   ·omega
   ·rw [growBy_four]
    repeat' split
    all_goals omega
 have h5 := Nat.mul_le_mul_right bytes h4
 rw [Nat.mul_assoc] at h5
 omega
theorem run_append_more {P : Program} {w : World} {B : Nat → Prop} {t t2 rt e : TypeId} {i : TypeInfo} {z : Value} (ht : P.underlying t = some (.slice e)) (hi : P.info? e = some i) (hz : i.zero = some z) (hby : 0 < i.bytes ∧ i.bytes ≤ 1000000)
  {es es2 : List (List FV)} {vs vx : Value} {a : Option Addr} {c : Nat} {olds news : List Value} (hs : RowAt w B i.size es vs a c olds) (hx : Src P w B t2 i.size es2 vx news) (hgrow : ¬ es.length + es2.length ≤ c)
  (hbytes : (es.length + es2.length) * i.bytes ≤ 220000000000000) :
  (Builtin.append_ #[t, t2] rt #[vs, vx]).run P w = .ok (.slice (some ⟨w.heap.size, 0, none⟩) (es.length + es2.length) (grownCap w (es.length + es2.length) c e))
   (w.drew.alloc (.cells (olds.toArray ++ news.toArray ++ Builtin.zeroCells z.cells (grownCap w (es.length + es2.length) c e - (es.length + es2.length))) e)) := by
 have hmul : (es.length + es2.length) * 1 ≤ (es.length + es2.length) * i.bytes := Nat.mul_le_mul_left _ hby.1
 have h63' : ¬ (9223372036854775807 < ((es.length : Int) + (es2.length : Int))) := by omega
 have hfit := growslice_fine (need := es.length + es2.length) (old := c) (bytes := i.bytes) (by omega) (by rw [Nat.add_mul, Nat.mul_right_comm]; have := hby.2; omega)
 have h48' : ¬ (281474976710656 < Builtin.nextslicecap (es.length + es2.length) c * i.bytes) := by omega
 have hfo := hs.first (P := P) (w' := w.drew) (fun d => World.cell?_drew ..)
 have hf := hx.first w.drew (fun d => World.cell?_drew ..)
 have hln := hx.lenO
 rw [hs.val] at hfo ⊢
 rcases hx.ty with ⟨e2, ht2⟩ | ht2 <;>
 ·simp [Builtin.append_, run_underlying ht, run_underlying ht2, sizeOf, typeInfo, zeroValue, hi, hz, hln, hgrow, h63', h48', Question.forced, hf, hfo, newRow, grownCap]
  congr 2
  apply Array.ext'
  simp [List.append_assoc]
theorem run_append_here {P : Program} {w : World} {B : Nat → Prop} {t t2 rt e : TypeId} {i : TypeInfo} (ht : P.underlying t = some (.slice e)) (hi : P.info? e = some i)
  {es es2 : List (List FV)} {vs vx : Value} {b off : Nat} {c : Nat} {olds news : List Value} (hs : RowAt w B i.size es vs (some ⟨b, off, none⟩) c olds) (hx : Src P w B t2 i.size es2 vx news) (hroom : es.length + es2.length ≤ c)
  {cur : Array Value} {ty' : TypeId} (hg : w.heap[b]? = some (.cells cur ty' (0, 0))) (hfit : off + es.length * i.size + news.length ≤ cur.size) :
  (Builtin.append_ #[t, t2] rt #[vs, vx]).run P w = .ok (.slice (some ⟨b, off, none⟩) (es.length + es2.length) c)
   (w.setRow b (cur.toList.take (off + es.length * i.size) ++ news ++ cur.toList.drop (off + es.length * i.size + news.length)).toArray) := by
 have hf := hx.first w (fun d => rfl)
 have hln := hx.lenO
 have hst := run_storeCells_at P b (off + es.length * i.size) ty' news 0 cur w hg (by omega) hx.one
 simp only [Nat.add_zero] at hst
 rw [hs.val]
 rcases hx.ty with ⟨e2, ht2⟩ | ht2 <;>
 simp [Builtin.append_, run_underlying ht, run_underlying ht2, sizeOf, typeInfo, hi, hln, hroom, hf, add_mk, hst]
theorem run_append_none {P : Program} {w : World} {B : Nat → Prop} {t t2 rt e : TypeId} {i : TypeInfo} (ht : P.underlying t = some (.slice e)) (hi : P.info? e = some i)
  {vx : Value} {a : Option Addr} {news : List Value} (hx : Src P w B t2 i.size [] vx news) :
  (Builtin.append_ #[t, t2] rt #[.slice a 0 0, vx]).run P w = .ok (.slice a 0 0) w := by
 have hf := hx.first w (fun d => rfl)
 have hln := hx.lenO
 have hn : news = [] := List.eq_nil_of_length_eq_zero (by simpa using hx.len)
 subst hn
 simp only [List.length_nil] at hf hln
 rcases hx.ty with ⟨e2, ht2⟩ | ht2 <;> cases a <;> simp [Builtin.append_, run_underlying ht, run_underlying ht2, sizeOf, typeInfo, hi, hln, hf, storeCells]
theorem append_elem {P : Program} {t2 : TypeId} {sz : Nat} {w : World} {B : Nat → Prop} {es es2 : List (List FV)} {vs vx : Value} {a : Option Addr} {c : Nat} {olds news : List Value} (hs : RowAt w B sz es vs a c olds) (hx : Src P w B t2 sz es2 vx news)
  (i : Nat) (e : List FV) (he : (es ++ es2)[i]? = some e) : e.length = sz ∧ ∀ (j : Nat) (x : FV), e[j]? = some x → ∃ v, (olds ++ news)[i * sz + j]? = some v ∧ RF w B x v := by
 have hol := hs.len
 by_cases hi : i < es.length
 ·rw [List.getElem?_append_left hi] at he
  obtain ⟨h1, h2⟩ := hs.elem i e he
  refine ⟨h1, fun j x hx => ?_⟩
  obtain ⟨u, hu, hr⟩ := h2 j x hx
  have hj : j < sz := by
   rcases Nat.lt_or_ge j e.length with h' | h'
   ·omega
   ·rw [List.getElem?_eq_none h'] at hx; cases hx
  have h7 : (i + 1) * sz ≤ es.length * sz := Nat.mul_le_mul_right _ hi
  rw [Nat.add_mul, Nat.one_mul] at h7
  exact ⟨u, by rw [List.getElem?_append_left (by omega)]; exact hu, hr⟩
 ·rw [List.getElem?_append_right (by omega)] at he
  obtain ⟨h1, h2⟩ := hx.elem _ e he
  refine ⟨h1, fun j x hx => ?_⟩
  obtain ⟨u, hu, hr⟩ := h2 j x hx
  have h8 : i * sz = es.length * sz + (i - es.length) * sz := by rw [← Nat.add_mul]; congr 1; omega
  exact ⟨u, by rw [List.getElem?_append_right (by omega), ← hu]; congr 1; omega, hr⟩
theorem append_ok {P : Program} {o : Oper} {ty ty2 : TypeId} {s x : Operand} (hop : o.op = .call { callee := .builtin .append, args := #[s, x], argTypes := #[ty, ty2] }) {t : List TV} {h : List Ob} {id : Nat} {K : OpK}
  (he : evAppend P ty ty2 (ev t s) (ev t x) h id K) : ∃ v wr rd, K v wr rd ∧ OpOK P o t h id v wr rd := by
 have hms : s ∈ o.op.operands := by rw [hop]; simp [Op.operands, Call.operands]
 have hmx : x ∈ o.op.operands := by rw [hop]; simp [Op.operands, Call.operands]
 have hexec : ∀ a : Act, execOp a.eval o = (do let v ← Builtin.append_ #[ty, ty2] o.type #[a.eval s, a.eval x]; pure (.value v)) := fun a => by
  unfold execOp; rw [hop]; simp [resolve, invoke, builtin]
 unfold evAppend at he
 split at he
 ·rename_i e ht
  split at he
  ·rename_i q es sz es2 rd hq hx
   split at he
   ·rename_i hcond
    obtain ⟨hrs, hby, hzi, hie⟩ := hcond
    obtain ⟨hbytes, hk⟩ := he
    obtain ⟨z0, hz0, hz0l⟩ := Option.map_eq_some_iff.1 hzi
    obtain ⟨i, z, hi, hz, hzr⟩ := zeroA_ok hz0
    have hcells : P.cellsOf e = i.size := by simp [Program.cellsOf, hi]
    have hbt : bytesOfT P e = i.bytes := by simp [bytesOfT, hi]
    rw [hbt] at hby hbytes
    have hzs : ∀ (w : World), z.cells.size = i.size := fun w => by
     have := (hzr w (fun _ => False) (fun _ => none)).1
     omega
    rw [hcells] at hrs
    unfold ownRow at hq
    split at hq
    ·
     rename_i nsz hse
     cases hq
     simp only at hk
     refine ⟨_, _, _, hk, fun ext w0 own0 t' h' a w Q hlen hag hrd hf R => ?_⟩
     obtain ⟨locs, H, RTm⟩ := R.repT
     have hps := ev_rep RTm s
     rw [hag s hms, hse] at hps
     obtain ⟨a1, hs⟩ := hps
     have hpx := ev_rep RTm x
     rw [hag x hmx] at hpx
     obtain ⟨news, hn⟩ := src_ok hx hrs hrd H hpx
     obtain ⟨hfn, _⟩ := fresh_none H hf
     by_cases he2 : es2 = []
     ·subst he2
      obtain ⟨H', lt⟩ := H.new (w' := w) hf (fun _ _ => rfl) (Nat.le_refl _) rfl rfl rfl ⟨none, 0, P.cellsOf e, 0⟩ (.f e (P.cellsOf e) ([] ++ [])) (fun _ d hd => by cases hd) (fun lt => ⟨rfl, rfl, .inl ⟨rfl, rfl, rfl⟩⟩)
      refine wp_value (v := .slice a1 0 0) (w' := w) ?_ (Rep.mkput R RTm H' lt (addL_mono hfn) o.dst _ _ ⟨⟨none, 0, P.cellsOf e, 0⟩, a1, 0, addL_at, rfl, rfl, Nat.le_refl _, Nat.le_refl _, .inl rfl⟩)
      rw [hexec, hs]
      simp [run_append_none ht hi hn]
     ·have hpos : 0 < es2.length := List.length_pos_iff.2 he2
      have hrun := run_append_more (P := P) (rt := o.type) ht hi hz hby (RowAt.nil (w := w) (B := Bar ext locs h') i.size a1 0) hn (by simp; omega) hbytes
      have hge := grownCap_ge w (List.length ([] : List (List FV)) + es2.length) 0 e
      refine wp_value (v := .slice (some ⟨w.heap.size, 0, none⟩) ([] ++ es2).length (grownCap w (List.length ([] : List (List FV)) + es2.length) 0 e)) (w' := w.drew.alloc (.cells (([] : List Value).toArray ++ news.toArray ++ Builtin.zeroCells z.cells (grownCap w (List.length ([] : List (List FV)) + es2.length) 0 e - (List.length ([] : List (List FV)) + es2.length))) e)) ?_ ?_
      ·rw [hexec, hs]
       simp only [Sem.run_bind, hrun, Result.andThen, Sem.run_pure]
       simp
      ·refine newrow_at R H RTm hf (sz := P.cellsOf e) (es := [] ++ es2) (ty := e) (fun b hb => alloc_old w.drew _ b hb) (by rw [alloc_size]; exact Nat.le_succ _) (alloc_new w.drew _) rfl rfl rfl (by simpa using hge) ?_ (fun k el hk' => ?_) o.dst
       ·simp only [Array.size_append, List.size_toArray, size_zeroCells, hzs w, hn.len, List.length_nil, Nat.zero_add, hcells, ← Nat.add_mul]
        refine Nat.mul_le_mul_right _ ?_
        simp only [List.length_nil, Nat.zero_add] at hge
        omega
       ·obtain ⟨h1, h2⟩ := append_elem (RowAt.nil (w := w) (B := Bar ext locs h') i.size a1 0) hn k el hk'
        refine ⟨by rw [h1, hcells], fun j y hy => ?_⟩
        obtain ⟨u, hu, hr⟩ := h2 j y hy
        refine ⟨u, ?_, hr⟩
        rw [hcells, Array.getElem?_append_left (by
         rcases Nat.lt_or_ge (k * i.size + j) (([] : List Value) ++ news).length with h' | h'
         ·simpa using h'
         ·rw [List.getElem?_eq_none h'] at hu; cases hu)]
        simpa using hu
    ·
     rename_i sz1 o1 hse
     split at hq
     ·rename_i et sz' es' hg
      split at hq
      ·rename_i hsz
       obtain ⟨rfl, hsz1⟩ := hsz
       cases hq
       simp only at hk
       rw [hcells] at hsz1
       refine ⟨_, _, _, hk, fun ext w0 own0 t' h' a w Q hlen hag hrd hf R => ?_⟩
       obtain ⟨locs, H, RTm⟩ := R.repT
       have hps := ev_rep RTm s
       rw [hag s hms, hse] at hps
       have hpx := ev_rep RTm x
       rw [hag x hmx] at hpx
       obtain ⟨news, hn⟩ := src_ok hx hrs (fun k hk => hrd k (by simp [hk])) H hpx
       obtain ⟨hfn, _⟩ := fresh_none H hf
       have ho : h'[o1]? = some (.f et sz' es) := by rw [hrd o1 (by simp)]; exact getO_some hg (by simp)
       have het' : (if et = e then e else 0) = 0 ∨ ((if et = e then e else 0) = e ∧ et = e) := by
        split
        ·exact .inr ⟨rfl, ‹_›⟩
        ·exact .inl rfl
       generalize (if et = e then e else 0) = et1 at hk het' ⊢
       obtain ⟨lc, hl, hob⟩ := H.get ho (by simp) (by simp)
       obtain ⟨a1, c1, olds, hs, hcc, hca⟩ := f_row hl hob hps
       subst hsz1
       have hput : ∀ ob, putOs h' [(o1, .no), (id, ob)] = putO (h'.set o1 .no) id ob := fun ob => by simp [putOs, putO_lt ho]
       rw [hput]
       by_cases hroom : es.length + es2.length ≤ c1
       ·by_cases hc0 : c1 = 0
        ·subst hc0
         have h1 : es = [] := List.eq_nil_of_length_eq_zero (by omega)
         have h2 : es2 = [] := List.eq_nil_of_length_eq_zero (by omega)
         subst h1 h2
         obtain ⟨H', lt⟩ := H.move (w' := w) (l' := ⟨none, 0, P.cellsOf e, 0⟩) (ob := .f et1 (P.cellsOf e) ([] ++ [])) ho rfl hl hf (fun d hd => by cases hd) (fun _ _ _ => rfl) (Nat.le_refl _) rfl rfl rfl (fun lt => ⟨rfl, rfl, .inl ⟨rfl, rfl, rfl⟩⟩)
         refine wp_value (v := .slice a1 0 0) (w' := w) ?_ (Rep.mkput R RTm H' lt (addL_mono hfn) o.dst _ _ ⟨⟨none, 0, P.cellsOf e, 0⟩, a1, 0, addL_at, rfl, rfl, Nat.le_refl _, Nat.le_refl _, .inl rfl⟩)
         rw [hexec, hs.val]
         simp [run_append_none ht hi hn]
        ·have hca' : a1 = lc.a := hca.resolve_left hc0
         obtain ⟨hls, hln, hlay⟩ := hob
         rcases hlay with ⟨_, _, h8⟩ | ⟨b, off, cc, ty', hla, hheap, het, hsz, hcap, hcell⟩
         ·omega
         ·rw [hla] at hca'
          subst hca'
          have hbound : off + (es.length + es2.length) * i.size ≤ cc.size := by
           have h7 : (es.length + es2.length) * i.size ≤ lc.cap * i.size := Nat.mul_le_mul_right _ (by omega)
           omega
          have hfit : off + es.length * i.size + news.length ≤ cc.size := by rw [hn.len, Nat.add_assoc, ← Nat.add_mul]; exact hbound
          have hrun := run_append_here (P := P) (rt := o.type) ht hi hs hn hroom hheap hfit
          obtain ⟨H', lt⟩ := H.move (w' := w.setRow b (cc.toList.take (off + es.length * i.size) ++ news ++ cc.toList.drop (off + es.length * i.size + news.length)).toArray) (l' := ⟨some ⟨b, off, none⟩, c1, i.size, (es ++ es2).length⟩) (ob := .f et1 i.size (es ++ es2)) ho rfl hl hf
           (fun d hd => by cases hd; exact .inr ⟨_, hla, rfl⟩) (fun k hk hne => setRow_old w b k _ (hne _ hla)) (by simp) rfl rfl rfl (fun lt => by
            refine ⟨rfl, rfl, .inr ⟨b, off, _, ty', rfl, setRow_heap w b cc _ ty' _ hheap, (by rcases het' with h0 | ⟨h0, h1⟩; exact .inl h0; rw [h0, ← h1]; exact het.elim (fun h => .inl h) .inr), ?_, by simpa using hroom, fun k el hk' => ?_⟩⟩
            ·simp only [List.size_toArray, List.length_append, List.length_take, List.length_drop, Array.length_toList]
             have h7 : c1 * i.size ≤ lc.cap * i.size := Nat.mul_le_mul_right _ hcc
             omega
            ·have hsame := hcell
             by_cases hki : k < es.length
             ·rw [List.getElem?_append_left hki] at hk'
              obtain ⟨h9, h10⟩ := hcell k el hk'
              refine ⟨h9, fun j y hy => ?_⟩
              have hj : j < i.size := by
               rcases Nat.lt_or_ge j el.length with h' | h'
               ·omega
               ·rw [List.getElem?_eq_none h'] at hy; cases hy
              have h7 : (k + 1) * i.size ≤ es.length * i.size := Nat.mul_le_mul_right _ hki
              rw [Nat.add_mul, Nat.one_mul] at h7
              rw [splice_get cc _ _ hfit, if_neg (by omega)]
              obtain ⟨u, hu, hr⟩ := h10 j y hy
              exact ⟨u, hu, hr.later lt⟩
             ·rw [List.getElem?_append_right (by omega)] at hk'
              obtain ⟨h9, h10⟩ := hn.elem _ el hk'
              refine ⟨h9, fun j y hy => ?_⟩
              obtain ⟨u, hu, hr⟩ := h10 j y hy
              have hul : (k - es.length) * i.size + j < news.length := by
               rcases Nat.lt_or_ge ((k - es.length) * i.size + j) news.length with h' | h'
               ·exact h'
               ·rw [List.getElem?_eq_none h'] at hu; cases hu
              have h8 : k * i.size = es.length * i.size + (k - es.length) * i.size := by rw [← Nat.add_mul]; congr 1; omega
              rw [splice_get cc _ _ hfit, if_pos (by omega)]
              exact ⟨u, by rw [← hu]; congr 1; omega, hr.later lt⟩)
          rw [hcells]
          refine wp_value (v := .slice (some ⟨b, off, none⟩) (es.length + es2.length) c1) ?_ (Rep.mkput R RTm H' lt (addL_mono hfn) o.dst _ _ ⟨_, _, c1, addL_at, rfl, by simp, by simpa using hroom, Nat.le_refl _, .inr rfl⟩)
          rw [hexec]
          simp only [Sem.run_bind, hrun, Result.andThen, Sem.run_pure]
       ·have hrun := run_append_more (P := P) (rt := o.type) ht hi hz hby hs hn hroom hbytes
        have hge := grownCap_ge w (es.length + es2.length) c1 e
        rw [hcells]
        obtain ⟨H', lt⟩ := H.move (w' := w.drew.alloc (.cells (olds.toArray ++ news.toArray ++ Builtin.zeroCells z.cells (grownCap w (es.length + es2.length) c1 e - (es.length + es2.length))) e)) (l' := ⟨some ⟨w.heap.size, 0, none⟩, grownCap w (es.length + es2.length) c1 e, i.size, (es ++ es2).length⟩) (ob := .f et1 i.size (es ++ es2)) ho rfl hl hf
         (fun d hd => by cases hd; exact .inl (Nat.le_refl _)) (fun k hk _ => alloc_old w.drew _ k hk) (by rw [alloc_size]; exact Nat.le_succ _) rfl rfl rfl (fun lt => by
          refine ⟨rfl, rfl, .inr ⟨w.heap.size, 0, _, e, rfl, alloc_new w.drew _, (het'.elim .inl fun h => .inr h.1.symm), ?_, by simpa using hge, fun k el hk' => ?_⟩⟩
          ·simp only [Array.size_append, List.size_toArray, size_zeroCells, hzs w, hs.len, hn.len, ← Nat.add_mul, Nat.zero_add]
           refine Nat.mul_le_mul_right _ ?_
           omega
          ·obtain ⟨h1, h2⟩ := append_elem hs hn k el hk'
           refine ⟨h1, fun j y hy => ?_⟩
           obtain ⟨u, hu, hr⟩ := h2 j y hy
           refine ⟨u, ?_, hr.later lt⟩
           rw [Nat.zero_add, Array.getElem?_append_left (by
            rcases Nat.lt_or_ge (k * i.size + j) (olds ++ news).length with h' | h'
            ·simpa using h'
            ·rw [List.getElem?_eq_none h'] at hu; cases hu)]
           simpa using hu)
        refine wp_value (v := .slice (some ⟨w.heap.size, 0, none⟩) (es.length + es2.length) (grownCap w (es.length + es2.length) c1 e)) ?_ (Rep.mkput R RTm H' lt (addL_mono hfn) o.dst _ _ ⟨_, _, grownCap w (es.length + es2.length) c1 e, addL_at, rfl, by simp, by simpa using hge, Nat.le_refl _, .inr rfl⟩)
        rw [hexec]
        simp only [Sem.run_bind, hrun, Result.andThen, Sem.run_pure]
      ·cases hq
     ·cases hq
    ·cases hq
   ·exact he.elim
  ·exact he.elim
 ·exact he.elim
end
section
def evAppendZ (P : Program) (ty ty2 : TypeId) (s x : TV) (id : Nat) (K : OpK) : Prop :=
 match P.underlying ty, P.underlying ty2, s, x with
 | some (.slice e), some (.int _), .one (.nsl _), .one (.fz (.int _ n)) =>
  match zeroA P e with
  | some z =>
   match frzL z with
   | some fs => if fs.length = P.cellsOf e ∧ 0 < P.cellsOf e ∧ (0 < bytesOfT P e ∧ bytesOfT P e ≤ 1000000) ∧ (P.underlying e).isSome = true then
     (0 ≤ n ∧ n * (bytesOfT P e : Int) ≤ 220000000000000) ∧ K (.one (.ofl (P.cellsOf e) id)) [(id, .f e (P.cellsOf e) (List.replicate n.toNat fs))] []
    else False
   | none => False
  | none => False
 | _, _, _, _ => False
theorem run_appendZ {P : Program} {w : World} {t t2 rt e : TypeId} {k2 : IntKind} {i : TypeInfo} {z : Value} (ht : P.underlying t = some (.slice e)) (ht2 : P.underlying t2 = some (.int k2)) (hi : P.info? e = some i) (hz : i.zero = some z) (hby : 0 < i.bytes ∧ i.bytes ≤ 1000000) (hs : 0 < i.size)
  (a : Option Addr) (k : IntKind) (n : Nat) (hn : 0 < n) (hbytes : n * i.bytes ≤ 220000000000000) :
  (Builtin.append_ #[t, t2] rt #[.slice a 0 0, .int k n]).run P w = .ok (.slice (some ⟨w.heap.size, 0, none⟩) n (grownCap w n 0 e))
   (w.drew.alloc (.cells (Builtin.zeroCells z.cells n ++ Builtin.zeroCells z.cells (grownCap w n 0 e - n)) e)) := by
 have hmul : n * 1 ≤ n * i.bytes := Nat.mul_le_mul_left _ hby.1
 have hw : IntKind.wrap .i64 ((n : Nat) : Int) = ((n : Nat) : Int) := by rw [IntKind.wrap_i64]; omega
 have hfo : (Builtin.firstCells i.size 0 (.slice a 0 0)).run P w.drew = .ok #[] w.drew := (RowAt.nil (w := w) (B := fun _ => False) i.size a 0).first (fun d => World.cell?_drew ..)
 have hns : ¬ n * i.size = 0 := fun h => by rcases Nat.mul_eq_zero.1 h with h | h <;> omega
 have h0 : ¬ ((n : Int) < 0) := by omega
 have h48 : ¬ (281474976710656 < (n : Int) * (i.bytes : Int)) := by
  have : ((n * i.bytes : Nat) : Int) ≤ 220000000000000 := by omega
  rw [Int.natCast_mul] at this
  omega
 have h63' : ¬ (9223372036854775807 < (n : Int)) := by omega
 have hfit := growslice_fine (need := n) (old := 0) (bytes := i.bytes) hn (by rw [Nat.add_mul, Nat.mul_right_comm]; have := hby.2; omega)
 have h48' : ¬ (281474976710656 < Builtin.nextslicecap n 0 * i.bytes) := by omega
 have hnc : ¬ (n ≤ 0) := by omega
 have hne : n ≠ 0 := by omega
 have hse : i.size ≠ 0 := by omega
 simp [Builtin.append_, run_underlying ht, run_underlying ht2, sizeOf, typeInfo, zeroValue, hi, hz, asInt, asIntOf, hw, h0, h48, h48', h63', hns, Question.forced, newRow, grownCap, hfo]
 exact fun h => absurd h hne
theorem run_appendZ0 {P : Program} {w : World} {t t2 rt e : TypeId} {k2 : IntKind} {i : TypeInfo} (ht : P.underlying t = some (.slice e)) (ht2 : P.underlying t2 = some (.int k2)) (hi : P.info? e = some i)
  (a : Option Addr) (k : IntKind) : (Builtin.append_ #[t, t2] rt #[.slice a 0 0, .int k 0]).run P w = .ok (.slice a 0 0) w := by
 have hw : IntKind.wrap .i64 (0 : Int) = 0 := by rw [IntKind.wrap_i64]; rfl
 cases a <;> simp [Builtin.append_, run_underlying ht, run_underlying ht2, sizeOf, typeInfo, hi, asInt, asIntOf, hw, storeCells]
theorem appendZ_ok {P : Program} {o : Oper} {ty ty2 : TypeId} {s x : Operand} (hop : o.op = .call { callee := .builtin .append, args := #[s, x], argTypes := #[ty, ty2] }) {t : List TV} {h : List Ob} {id : Nat} {K : OpK}
  (he : evAppendZ P ty ty2 (ev t s) (ev t x) id K) : ∃ v wr rd, K v wr rd ∧ OpOK P o t h id v wr rd := by
 have hms : s ∈ o.op.operands := by rw [hop]; simp [Op.operands, Call.operands]
 have hmx : x ∈ o.op.operands := by rw [hop]; simp [Op.operands, Call.operands]
 have hexec : ∀ a : Act, execOp a.eval o = (do let v ← Builtin.append_ #[ty, ty2] o.type #[a.eval s, a.eval x]; pure (.value v)) := fun a => by
  unfold execOp; rw [hop]; simp [resolve, invoke, builtin]
 unfold evAppendZ at he
 split at he
 ·rename_i e k2 sz1 k n ht ht2 hse hxe
  split at he
  ·rename_i z hz
   split at he
   ·rename_i fs hfs
    split at he
    ·rename_i hcond
     obtain ⟨hfl, hpos, hby, hie⟩ := hcond
     obtain ⟨⟨h0, hbytes⟩, hk⟩ := he
     obtain ⟨i, zv, hi, hzv, hzr⟩ := zeroA_ok hz
     refine ⟨_, _, _, hk, fun ext w0 own0 t' h' a w Q hlen hag hrd hf R => ?_⟩
     obtain ⟨locs, H, RTm⟩ := R.repT
     have hps := ev_rep RTm s
     rw [hag s hms, hse] at hps
     obtain ⟨a1, hs⟩ := hps
     have e2 := ev_rep RTm x
     rw [hag x hmx, hxe] at e2
     have e2 := inv_int e2
     have hcells : P.cellsOf e = i.size := by simp [Program.cellsOf, hi]
     have hbt : bytesOfT P e = i.bytes := by simp [bytesOfT, hi]
     rw [hbt] at hbytes hby
     obtain ⟨m, rfl⟩ := Int.eq_ofNat_of_zero_le h0
     have hzsz : zv.cells.size = i.size := by
      have := (hzr w (Bar ext locs h') locs).1
      have h2 := (frzL_ok (w := w) (B := Bar ext locs h') (locs := locs) hfs).1
      omega
     obtain ⟨hfn, _⟩ := fresh_none H hf
     by_cases hm : m = 0
     ·subst hm
      obtain ⟨H', lt⟩ := H.new (w' := w) hf (fun _ _ => rfl) (Nat.le_refl _) rfl rfl rfl ⟨none, 0, P.cellsOf e, 0⟩ (.f e (P.cellsOf e) []) (fun _ d hd => by cases hd) (fun lt => ⟨rfl, rfl, .inl ⟨rfl, rfl, rfl⟩⟩)
      refine wp_value (v := .slice a1 0 0) (w' := w) ?_ (by
       have := Rep.mkput R RTm H' lt (addL_mono hfn) o.dst (.one (.ofl (P.cellsOf e) id)) (.slice a1 0 0) ⟨⟨none, 0, P.cellsOf e, 0⟩, a1, 0, addL_at, rfl, rfl, Nat.le_refl _, Nat.le_refl _, .inl rfl⟩
       simpa [putOs] using this)
      rw [hexec, hs, e2]
      have hz0 := run_appendZ0 (P := P) (w := w) (rt := o.type) ht ht2 hi a1 k
      simp only [Int.ofNat_eq_natCast, Int.natCast_zero, Sem.run_bind, hz0, Result.andThen, Sem.run_pure]
     ·have hb2 : m * i.bytes ≤ 220000000000000 := by
       have : ((m * i.bytes : Nat) : Int) ≤ 220000000000000 := by rw [Int.natCast_mul]; exact hbytes
       omega
      have hrun := run_appendZ (P := P) (w := w) (rt := o.type) ht ht2 hi hzv hby (by omega) a1 k m (by omega) hb2
      have hge := grownCap_ge w m 0 e
      refine wp_value (v := .slice (some ⟨w.heap.size, 0, none⟩) m (grownCap w m 0 e)) (w' := w.drew.alloc (.cells (Builtin.zeroCells zv.cells m ++ Builtin.zeroCells zv.cells (grownCap w m 0 e - m)) e)) ?_ ?_
      ·rw [hexec, hs, e2]
       simp only [Int.ofNat_eq_natCast, Sem.run_bind, hrun, Result.andThen, Sem.run_pure]
      ·have := newrow_at R H RTm hf (sz := P.cellsOf e) (es := List.replicate m fs) (arr := Builtin.zeroCells zv.cells m ++ Builtin.zeroCells zv.cells (grownCap w m 0 e - m)) (ty := e) (cap := grownCap w m 0 e) (w' := w.drew.alloc (.cells (Builtin.zeroCells zv.cells m ++ Builtin.zeroCells zv.cells (grownCap w m 0 e - m)) e))
        (fun b hb => alloc_old w.drew _ b hb) (by rw [alloc_size]; exact Nat.le_succ _) (alloc_new w.drew _) rfl rfl rfl (by simpa using hge) (by
         rw [Array.size_append, size_zeroCells, size_zeroCells, hzsz, hcells, ← Nat.add_mul]
         refine Nat.mul_le_mul_right _ ?_
         omega) (fun q el hq => by
        have hq' : q < m ∧ el = fs := by
         rw [List.getElem?_replicate] at hq
         split at hq
         ·cases hq; exact ⟨‹_›, rfl⟩
         ·cases hq
        obtain ⟨hqn, rfl⟩ := hq'
        refine ⟨hfl, fun j y hy => ?_⟩
        have hj : j < i.size := by
         rcases Nat.lt_or_ge j el.length with h' | h'
         ·omega
         ·rw [List.getElem?_eq_none h'] at hy; cases hy
        have hlt : q * i.size + j < m * i.size := by
         have h7 : (q + 1) * i.size ≤ m * i.size := Nat.mul_le_mul_right _ (by omega)
         rw [Nat.add_mul, Nat.one_mul] at h7
         omega
        obtain ⟨u, hu, hr⟩ := (frzL_ok (w := w) (B := Bar ext locs h') (locs := locs) hfs).2 zv.cells.toList (fun j x hx => by obtain ⟨u, hu, hr⟩ := (hzr w _ locs).2 j x hx; exact ⟨u, by simpa using hu, hr⟩) j y hy
        refine ⟨u, ?_, hr⟩
        have hzm : Builtin.zeroCells zv.cells m = madeCells zv.cells (m * i.size) := by rw [← hzsz]; rfl
        rw [hcells, Array.getElem?_append_left (by rw [size_zeroCells, hzsz]; exact hlt), hzm, madeCells_get _ _ _ hlt (by omega), hzsz, Nat.mul_comm, Nat.mul_add_mod, Nat.mod_eq_of_lt hj]
        simpa using hu) o.dst
       simpa [putOs] using this
    ·exact he.elim
   ·exact he.elim
  ·exact he.elim
 ·exact he.elim
end
section
theorem RepH.grow {P : Program} {ext : Nat → Prop} {w0 : World} {own0 : Own0} {locs : Locs} {h : List Ob} {w w' : World} (H : RepH P ext w0 own0 locs h w) (hw : ∀ b, b < w.heap.size → w'.heap[b]? = w.heap[b]?) (hsz : w.heap.size ≤ w'.heap.size)
  (hos : w'.os = w.os) (htape : w'.tape = w.tape) (hout : w'.output = w.output) : RepH P ext w0 own0 locs h w' ∧ Later w (Bar ext locs h) w' (Bar ext locs h) :=
 H.step (fun _ => False) (fun _ => False) (fun b hb _ => hw b hb) hsz hos htape hout (fun _ _ hd => hd.elim) (fun _ _ hx => hx) H.len (fun _ _ _ ho => ⟨ho, rfl, rfl⟩) (fun o b hb => Nat.lt_of_lt_of_le (H.ownlt o b hb) hsz) (fun _ _ _ _ _ _ _ _ _ hd => hd) (fun _ _ ho => ho) (fun _ _ _ _ _ _ _ _ hc => hc.elim) (fun _ _ _ hc => hc.elim)
def evConvO (P : Program) (src dst : TypeId) (x : TV) (h : List Ob) (K : OpK) : Prop :=
 match P.underlying src, P.underlying dst, x with
 | some (.slice e), some .string, .one (.ofl _ _) =>
  if isTy P e (fun | .int .u8 => true | _ => false) then
   match rowOf h x with
   | some (1, es, rd) => ∃ ns : List Int, es = ns.map (fun n => [FV.int .u8 n]) ∧ K (.one (.fz (.str (bytesOf ns)))) [] rd
   | _ => False
  else False
 | some .string, some (.slice e), .one (.fz (.str s)) =>
  if isTy P e (fun | .int .u8 => true | _ => false) then K (.one (.fz (.sl 1 (s.data.toList.map fun b => [FV.int .u8 (b.toNat : Int)])))) [] [] else False
 | _, _, _ => False
theorem isU8 {P : Program} {e : TypeId} (he : isTy P e (fun | .int .u8 => true | _ => false) = true) : P.underlying e = some (.int .u8) := by
 obtain ⟨d, hd, hf⟩ := isTy_ok he
 have hd' : d = .int .u8 := by
  cases d with
  | int k => cases k <;> simp_all
  | _ => simp_all
 rw [hd, hd']
theorem convO_ok {P : Program} {o : Oper} {src dst : TypeId} {x : Operand} (hop : o.op = .convert src dst x) {t : List TV} {h : List Ob} {id : Nat} {K : OpK} (he : evConvO P src dst (ev t x) h K) :
  ∃ v wr rd, K v wr rd ∧ OpOK P o t h id v wr rd := by
 have hmem : x ∈ o.op.operands := by rw [hop]; simp [Op.operands]
 have hexec : ∀ a : Act, execOp a.eval o = (do let v ← convert src dst (a.eval x); pure (.value v)) := fun a => by unfold execOp; rw [hop]
 unfold evConvO at he
 split at he
 ·rename_i e sz q h1 h2 hx
  split at he
  ·rename_i h8
   have h3 := isU8 h8
   split at he
   ·rename_i es rd hrow
    obtain ⟨ns, rfl, hk⟩ := he
    refine ⟨_, _, _, hk, fun ext w0 own0 t' h' a w Q hlen hag hrd hf R => ?_⟩
    obtain ⟨locs, H, RTm⟩ := R.repT
    have hp := ev_rep RTm x
    rw [hag x hmem] at hp
    obtain ⟨ad, c, news, hn⟩ := rowOf_ok hrow hrd H hp
    refine wp_value (v := .string (bytesOf ns)) (w' := w) ?_ (Rep.mkput R RTm H (Later.refl _ _) (fun _ _ h => h) o.dst _ _ (RF.str _))
    rw [hexec, hn.val]
    have hnews : news = ns.map (Value.int .u8) := by
     apply List.ext_getElem?
     intro j
     have hl := hn.len
     simp only [List.length_map, Nat.mul_one] at hl
     by_cases hj : j < ns.length
     ·have he : (ns.map fun n => [FV.int .u8 n])[j]? = some [FV.int .u8 ns[j]] := by simp [hj]
      obtain ⟨_, h5⟩ := hn.elem j _ he
      obtain ⟨u, hu, hr⟩ := h5 0 _ rfl
      simp only [Nat.mul_one, Nat.add_zero] at hu
      cases hr
      rw [hu]; simp [hj]
     ·rw [List.getElem?_eq_none (by omega), List.getElem?_eq_none (by simp; omega)]
    have hrun : (Conv.bytesToString (.slice ad (ns.map fun n => [FV.int .u8 n]).length c)).run P w = .ok (.string (bytesOf ns)) w := by
     cases ad with
     | none =>
      have : ns = [] := by
       cases ns with
       | nil => rfl
       | cons n ns => rw [hnews] at hn; obtain ⟨d, hd, _⟩ := hn.cell 0 (.int .u8 n) rfl; cases hd
      subst this
      rfl
     | some d =>
      rw [← foldl_bytes]
      refine run_bytesToString (P := P) w d _ c ns ?_
      rw [show (ns.map fun n => [FV.int .u8 n]).length = (ns.map (Value.int .u8)).length by simp]
      refine run_loadCells_list (P := P) w d _ fun j v hv => ?_
      rw [← hnews] at hv
      obtain ⟨d', hd', hsp, hc⟩ := hn.cell j v hv
      cases hd'
      rw [add_eq d hsp]; exact hc
    simp [run_convert_bytes_string w src dst _ ad _ c h1 h3 h2, hrun] at hrun ⊢
    simp [hrun]
   ·exact he.elim
  ·exact he.elim
 ·rename_i e s h1 h2 hx
  split at he
  ·rename_i h8
   have h3 := isU8 h8
   refine ⟨_, _, _, he, fun ext w0 own0 t' h' a w Q hlen hag hrd hf R => ?_⟩
   obtain ⟨locs, H, RTm⟩ := R.repT
   have hp := ev_rep RTm x
   rw [hag x hmem, hx] at hp
   have hp' := inv_str hp
   let cap := grownCap w s.size 0 e
   let arr : Array Value := (s.data.map fun b => Value.int .u8 b.toNat) ++ Array.replicate (cap - s.size) (.int .u8 0)
   let w' : World := (w.drew.alloc (.cells arr e)).freeze ⟨w.heap.size, arr.size, none⟩ 1
   have hold : ∀ b, b < w.heap.size → w'.heap[b]? = w.heap[b]? := by
    intro b hb
    simp only [w', World.freeze]
    rw [if_neg (by omega)]
    simp only [Array.getElem?_modify]
    rw [if_neg (by omega)]
    exact alloc_old w.drew _ b hb
   have hsz : w'.heap.size = w.heap.size + 1 := by
    simp only [w', World.freeze]
    rw [if_neg (by omega)]
    simp only [Array.size_modify]
    exact alloc_size w.drew _
   have hnew : w'.heap[w.heap.size]? = some (.cells arr e (arr.size, arr.size + 1)) := by
    simp only [w', World.freeze]
    rw [if_neg (by omega)]
    simp only [Array.getElem?_modify]
    rw [if_pos trivial]
    have := alloc_new w.drew (.cells arr e)
    simp only [World.size_drew] at this
    rw [this]
    rfl
   obtain ⟨H', lt⟩ := H.grow (w' := w') hold (by omega) rfl rfl rfl
   have hge : s.size ≤ cap := grownCap_ge w s.size 0 e
   refine wp_value (v := .slice (some ⟨w.heap.size, 0, none⟩) s.size cap) (w' := w') ?_ (Rep.mkput R RTm H' lt (fun _ _ h => h) o.dst _ _ ?_)
   ·rw [hexec, hp']
    have hshape : ∀ (c : Array Value), (w.drew.alloc (.cells c e)).shape? w.heap.size = some (e, c.size) := by
     intro c
     unfold World.shape?
     have := alloc_new w.drew (.cells c e)
     rw [show w.drew.heap = w.heap from rfl] at this
     rw [this]
    have rs : ∀ (r : Nat) (w : World), (shape r).run P w = .ok (w.shape? r) w := fun _ _ => rfl
    have rf : ∀ (a : Addr) (n : Nat) (w : World), (freeze a n).run P w = .ok () (w.freeze a n) := fun _ _ _ => rfl
    simp [convert, run_underlying h1, run_underlying h2, run_underlying h3, Conv.stringToBytes, Question.forced, newRow, markStringish, rs, rf, hshape]
    exact ⟨rfl, by simp only [w', arr, Array.size_append, Array.size_map, Array.size_replicate]; rfl⟩
   ·have hls : (s.data.toList.map fun b => [FV.int .u8 (b.toNat : Int)]).length = s.size := by rw [List.length_map, Array.length_toList]; rfl
    have hnb : ¬ Bar ext locs h' w.heap.size := by
     rintro (hb | hb)
     ·exact Nat.lt_irrefl _ (H.extlt _ hb)
     ·exact Nat.lt_irrefl _ (H.own_lt hb)
    have := RF.sl (w := w') (B := Bar ext locs h') (s.data.toList.map fun b => [FV.int .u8 (b.toNat : Int)]) w.heap.size 0 cap 1 (fun i _ => arr.getD i undef) (fun _ _ _ _ _ _ => hnb) (by rw [hls]; exact hge)
     (fun i el hi => by
      simp only [List.getElem?_map, Option.map_eq_some_iff] at hi
      obtain ⟨b, _, rfl⟩ := hi
      rfl)
     (fun i el j y hi hy => by
      simp only [List.getElem?_map, Option.map_eq_some_iff] at hi
      obtain ⟨b, hb, rfl⟩ := hi
      have hil : i < s.data.size := by
       rcases Nat.lt_or_ge i s.data.size with h' | h'
       ·exact h'
       ·rw [List.getElem?_eq_none (by simpa using h')] at hb; cases hb
      cases j with
      | zero =>
       have : i < arr.size := by simp only [arr, Array.size_append, Array.size_map]; omega
       simp only [World.cell?, hnew, Nat.zero_add, Nat.mul_one, Nat.add_zero]
       simp [this]
      | succ j => simp at hy)
     (fun i el j y hi hy => by
      simp only [List.getElem?_map, Option.map_eq_some_iff] at hi
      obtain ⟨b, hb, rfl⟩ := hi
      have hil : i < s.data.size := by
       rcases Nat.lt_or_ge i s.data.size with h' | h'
       ·exact h'
       ·rw [List.getElem?_eq_none (by simpa using h')] at hb; cases hb
      cases j with
      | zero =>
       cases hy
       have e2 : s.data[i] = b := by
        have : s.data.toList[i]? = some s.data[i] := by simp [hil]
        rw [this] at hb; cases hb; rfl
       have e3 : arr[i]? = some (.int .u8 b.toNat) := by
        simp only [arr]
        rw [Array.getElem?_append_left (by simpa using hil), Array.getElem?_map, Array.getElem?_eq_getElem hil, e2]
        rfl
       have e1 : arr.getD i undef = .int .u8 b.toNat := by rw [Array.getD_eq_getD_getElem?, e3]; rfl
       rw [e1]
       exact RF.int _ _
      | succ j => simp at hy)
    rw [hls] at this
    exact this
  ·exact he.elim
 ·exact he.elim
end
section
def Fn (P : Program) (f : FuncId) (args : List TV) (h : List Ob) (r : TV) (h' : List Ob) : Prop :=
 ∀ (ext : Nat → Prop) (w : World) (locs : Locs) (vals : Array Value), RepH P ext w ⟨ownB locs h, locs, []⟩ locs h w → vals.size = args.length →
  (∀ (i : Nat) (x : TV), args[i]? = some x → ∃ v, vals[i]? = some v ∧ RT w (Bar ext locs h) locs x v) →
  Calls P f vals w fun e w' => ∃ v locs', e = .returned v ∧ RepH P ext w ⟨ownB locs h, locs, []⟩ locs' h' w' ∧ RT w' (Bar ext locs' h') locs' r v
def FnC (P : Program) (C : Array Value → World → (Ending → World → Prop) → Prop) (E : Ending → Value → Prop) (args : List TV) (h : List Ob) (r : TV) (h' : List Ob) : Prop :=
 ∀ (ext : Nat → Prop) (w : World) (locs : Locs) (vals : Array Value), RepH P ext w ⟨ownB locs h, locs, []⟩ locs h w → vals.size = args.length →
  (∀ (i : Nat) (x : TV), args[i]? = some x → ∃ v, vals[i]? = some v ∧ RT w (Bar ext locs h) locs x v) →
  C vals w fun e w' => ∃ v locs', E e v ∧ RepH P ext w ⟨ownB locs h, locs, []⟩ locs' h' w' ∧ RT w' (Bar ext locs' h') locs' r v
def isRet (e : Ending) (v : Value) : Prop := e = .returned v
def isPan (e : Ending) (v : Value) : Prop := e = .panicked [{ v, recovered := false }]
theorem Fn.toC {P : Program} {f : FuncId} {args : List TV} {h : List Ob} {r : TV} {h' : List Ob} (F : Fn P f args h r h') : FnC P (Calls P f) isRet args h r h' := F
def shO : Ob → Ob
 | .g gt cs => .g gt (cs.map fun _ => .und)
 | _ => .no
def shH (h : List Ob) : List Ob := h.map shO
def panH (n : Nat) (h : List Ob) : List Ob := (List.range n).map fun o => shO (h.getD o .no)
def FnX (P : Program) (f : FuncId) (args : List TV) (h : List Ob) (x : FV) : Prop := FnC P (Calls P f) isPan args h (.one (.fz x)) (shH h)
def frzA (h : List Ob) : AV → Option (FV × List Nat)
 | .ofl sz o =>
  match getO h o with
  | .f et sz' es => if sz' = sz then some (.sl sz es, [o]) else none
  | .z sz' es => if sz' = sz then some (.sl sz es, [o]) else none
  | .r _ _ sz' es _ none => if sz' = sz then some (.sl sz es, [o]) else none
  | _ => none
 | a => match frz1 a with
  | some v => some (v, [])
  | none => none
def frzAs (h : List Ob) : List AV → Option (List FV × List Nat)
 | [] => some ([], [])
 | a :: r => match frzA h a with
  | some (v, i) => match frzAs h r with
   | some (l, j) => some (v :: l, i ++ j)
   | none => none
  | none => none
def frzTO (h : List Ob) : TV → Option (TV × List Nat)
 | .one a => match frzA h a with
  | some (v, i) => some (.one (.fz v), i)
  | none => none
 | .agg cs => match frzAs h cs with
  | some (l, i) => some (.agg (l.map .fz), i)
  | none => none
 | _ => none
def frzTOs (h : List Ob) : List TV → Option (List TV × List Nat)
 | [] => some ([], [])
 | a :: r => match frzTO h a with
  | some (v, i) => match frzTOs h r with
   | some (l, j) => some (v :: l, i ++ j)
   | none => none
  | none => none
def frzOb : Ob → Option Ob
 | .f _ sz es => some (.z sz es)
 | .r _ _ sz es _ none => some (.z sz es)
 | _ => none
theorem frzOb_some {ob z : Ob} (h : frzOb ob = some z) : ∃ sz es, z = .z sz es ∧ ((∃ et, ob = .f et sz es) ∨ ∃ s et n, ob = .r s et sz es n none) := by
 unfold frzOb at h
 split at h
 ·cases h; exact ⟨_, _, rfl, .inl ⟨_, rfl⟩⟩
 ·cases h; exact ⟨_, _, rfl, .inr ⟨_, _, _, rfl⟩⟩
 ·cases h
theorem frzOb_ne {ob z : Ob} (h : frzOb ob = some z) : ob ≠ .no ∧ ob ≠ .rs := by
 obtain ⟨sz, es, _, ⟨et, rfl⟩ | ⟨s, et, n, rfl⟩⟩ := frzOb_some h <;> exact ⟨by simp, by simp⟩
theorem RepH.frzO {P : Program} {ext : Nat → Prop} {w0 : World} {own0 : Own0} {locs : Locs} {h : List Ob} {w : World} (H : RepH P ext w0 own0 locs h w) {o : Nat} {ob z : Ob} (ho : h[o]? = some ob) (hz : frzOb ob = some z) :
  RepH P ext w0 own0 locs (h.set o z) w ∧ Later w (Bar ext locs h) w (Bar ext locs (h.set o z)) := by
 obtain ⟨sz, es, rfl, ⟨et, rfl⟩ | ⟨s, et, n, rfl⟩⟩ := frzOb_some hz
 ·exact H.frz ho
 ·exact H.frzR ho
def zs (h : List Ob) : List Nat → List (Nat × Ob)
 | [] => []
 | o :: r => match frzOb (getO h o) with
  | some z => (o, z) :: zs (h.set o z) r
  | none => zs h r
def CK.bare : CK → Bool
 | .sl _ => false
 | .x => false
 | _ => true
def mkR (P : Program) (t : TypeId) (cs : List FV) : Bool × List AV := (isAggB P t, cs.map .fz)
def exRs (P : Program) : List TypeId → (List (Bool × List AV) → Prop) → Prop
 | [], K => K []
 | t :: r, K => exC (kinds P t) fun cs => exRs P r fun l => K (mkR P t cs :: l)
def toTV : List (Bool × List AV) → TV
 | [(false, [a])] => .one a
 | [(true, cs)] => .agg cs
 | ts => .tup ts
def ownA (n : Nat) : List AV → List AV × List Ob
 | [] => ([], [])
 | .fz (.sl sz es) :: r => let (a, b) := ownA (n + 1) r; (.ofl sz n :: a, .f 0 sz es :: b)
 | x :: r => let (a, b) := ownA n r; (x :: a, b)
def ownR (n : Nat) : List (Bool × List AV) → List (Bool × List AV) × List Ob
 | [] => ([], [])
 | (b, cs) :: r => let (a, o) := ownA n cs; let (l, o') := ownR (n + o.length) r; ((b, a) :: l, o ++ o')
inductive AT where
 | k (c : CK)
 | a (x : AV)
 deriving Inhabited
inductive OT where
 | no
 | f (et : TypeId) (sz : Nat)
 | z (sz : Nat)
 | g (gt : TypeId) (cs : List AT)
 | r (s : Nat) (sz : Nat)
 deriving Inhabited
structure Sig where
 n : Nat
 res : List (Bool × List AT)
 obs : List OT
 sh : Nat
 deriving Inhabited
structure Mode where
 own : FuncId → Bool
 sig : FuncId → List Sig
 pin : Nat
 mp : FuncId → Bool := fun _ => false
 kp : FV → St → Prop := fun _ _ => False
 cl : Bool := false
def ifB (b : Bool) (y n : Prop) : Prop := match b with
 | true => y
 | false => n
theorem ifB_iff (b : Bool) (y n : Prop) : ifB b y n ↔ ((b = true → y) ∧ (b = false → n)) := by cases b <;> simp [ifB]
def splitB (cl b : Bool) (y n : Prop) : Prop := match cl with
 | false => (b = true → y) ∧ (b = false → n)
 | true => ifB b y n
theorem splitB_ok {cl b : Bool} {y n : Prop} (h : splitB cl b y n) : (b = true → y) ∧ (b = false → n) := by
 cases cl
 ·exact h
 ·exact (ifB_iff b y n).1 h
def argsK (P : Program) : List TypeId → List TV → List TV
 | t :: ts, x :: xs => fixT P t x :: argsK P ts xs
 | _, xs => xs
theorem argsK_ok {P : Program} {w : World} {B : Nat → Prop} {locs : Locs} : ∀ (ts : List TypeId) (xs : List TV), (argsK P ts xs).length = xs.length ∧ ∀ (i : Nat) (y : TV), (argsK P ts xs)[i]? = some y → ∃ x, xs[i]? = some x ∧ ∀ v, RT w B locs x v → RT w B locs y v
 | [], xs => by cases xs <;> exact ⟨rfl, fun i y hy => ⟨y, hy, fun _ h => h⟩⟩
 | t :: ts, [] => ⟨rfl, fun i y hy => ⟨y, hy, fun _ h => h⟩⟩
 | t :: ts, x :: xs => by
  obtain ⟨h1, h2⟩ := argsK_ok (P := P) (w := w) (B := B) (locs := locs) ts xs
  refine ⟨by simp [argsK, h1], fun i y hy => ?_⟩
  cases i with
  | zero => simp only [argsK] at hy; cases hy; exact ⟨x, rfl, fun v h => fixT_ok h⟩
  | succ i => exact h2 i y hy
def evCallF (P : Program) (M : Mode) (dr : Bool) (g : FuncId) (args : List TV) (h : List Ob) (id : Nat) (K : OpK) : Prop :=
 match P.funcs[g]? with
 | some fn =>
  if fn.body.isSome = true ∧ (fn.name == "runtime.NumGoroutine") = false then
   match frzTOs h (argsK P fn.params.toList args) with
   | some (ags, rd) =>
    if M.own g = true then
     exRs P fn.resultTypes.toList fun l => Fn P g ags [] (toTV (ownR 0 l).1) (ownR 0 l).2 ∧
      if dr = true ∧ 1 < (ownR 0 l).2.length then False else K (toTV (ownR id l).1) (zs h rd ++ (ownR 0 l).2.zipIdx.map fun (ob, j) => (id + j, ob)) rd
    else if fn.resultTypes.toList.all (fun t => (kinds P t).all CK.bare) = true then
     exRs P fn.resultTypes.toList fun l => Fn P g ags [] (toTV l) [] ∧ K (toTV l) [] rd
    else
     exRs P fn.resultTypes.toList fun l => Fn P g ags [] (toTV l) [] ∧ K (toTV l) (zs h rd) rd
   | none => False
  else False
 | none => False
section
variable {P : Program} {ext : Nat → Prop} {w0 : World} {own0 : Own0} {locs : Locs} {h : List Ob} {w w' : World}
theorem Later.trans {w w1 w2 : World} {B B1 B2 : Nat → Prop} (a : Later w B w1 B1) (b : Later w1 B1 w2 B2) (hs : w.heap.size ≤ w1.heap.size) : Later w B w2 B2 :=
 ⟨fun k hk hn => (b.same k (Nat.lt_of_lt_of_le hk hs) (fun hb => hn (a.bar k hk hb))).trans (a.same k hk hn), fun k hk hb => a.bar k hk (b.bar k (Nat.lt_of_lt_of_le hk hs) hb)⟩
theorem zs_ok : ∀ (rd : List Nat) {h : List Ob}, RepH P ext w0 own0 locs h w → RepH P ext w0 own0 locs (putOs h (zs h rd)) w ∧ Later w (Bar ext locs h) w (Bar ext locs (putOs h (zs h rd))) ∧ (putOs h (zs h rd)).length = h.length ∧
  ∀ (o sz : Nat) (es : List (List FV)), (h[o]? = some (.z sz es) → (putOs h (zs h rd))[o]? = some (.z sz es)) ∧ (∀ ob, h[o]? = some ob → frzOb ob = some (.z sz es) → o ∈ rd → (putOs h (zs h rd))[o]? = some (.z sz es))
 | [], h, H => ⟨H, Later.refl _ _, rfl, fun o sz es => ⟨fun h => h, fun _ _ _ hm => by cases hm⟩⟩
 | o :: r, h, H => by
  unfold zs
  split
  ·rename_i z hg
   have ho : h[o]? = some (getO h o) := getO_some rfl (frzOb_ne hg).1
   obtain ⟨H1, l1⟩ := H.frzO ho hg
   obtain ⟨H2, l2, h3, h4⟩ := zs_ok r H1
   simp only [putOs, putO_lt ho]
   refine ⟨H2, l1.trans l2 (Nat.le_refl _), by rw [h3]; simp, fun o' sz' es' => ?_⟩
   have hset := set_get (ob := z) ho o'
   obtain ⟨h5, h6⟩ := h4 o' sz' es'
   by_cases e : o' = o
   ·subst e
    rw [if_pos rfl] at hset
    refine ⟨fun hz => ?_, fun ob hf hq _ => ?_⟩
    ·rw [ho] at hz
     rw [Option.some.inj hz] at hg
     cases hg
    ·rw [ho] at hf; cases hf
     rw [hg] at hq; cases hq
     exact h5 hset
   ·rw [if_neg e] at hset
    refine ⟨fun hz => h5 (by rw [hset]; exact hz), fun ob hf hq hm => h6 ob (by rw [hset]; exact hf) hq ?_⟩
    cases hm with
    | head => exact absurd rfl e
    | tail _ hm => exact hm
  ·rename_i hne
   obtain ⟨H2, l2, h3, h4⟩ := zs_ok r H
   refine ⟨H2, l2, h3, fun o' sz' es' => ⟨(h4 o' sz' es').1, fun ob hf hq hm => ?_⟩⟩
   cases hm with
   | head =>
    rw [show getO h o = ob by simp [getO, List.getD_eq_getElem?_getD, hf], hq] at hne
    cases hne
   | tail _ hm => exact (h4 o' sz' es').2 ob hf hq hm
theorem frzA_ok {rd : List Nat} {a : AV} {v : FV} {i : List Nat} (hf : frzA h a = some (v, i)) (hi : ∀ k ∈ i, k ∈ rd) (H : RepH P ext w0 own0 locs h w) {u : Value} (hu : RA w (Bar ext locs h) locs a u) :
  RF w (Bar ext locs (putOs h (zs h rd))) v u := by
 obtain ⟨H1, lt, _, hz⟩ := zs_ok rd H
 unfold frzA at hf
 split at hf
 ·rename_i sz o
  have key : ∃ es, v = .sl sz es ∧ (putOs h (zs h rd))[o]? = some (.z sz es) := by
   split at hf
   ·rename_i hg
    split at hf
    ·rename_i e; subst e; cases hf
     exact ⟨_, rfl, (hz o _ _).2 _ (getO_some hg (by simp)) rfl (hi o (by simp))⟩
    ·cases hf
   ·rename_i hg
    split at hf
    ·rename_i e; subst e; cases hf
     exact ⟨_, rfl, (hz o _ _).1 (getO_some hg (by simp))⟩
    ·cases hf
   ·rename_i hg
    split at hf
    ·rename_i e; subst e; cases hf
     exact ⟨_, rfl, (hz o _ _).2 _ (getO_some hg (by simp)) rfl (hi o (by simp))⟩
    ·cases hf
   ·cases hf
  obtain ⟨es, rfl, ho⟩ := key
  obtain ⟨l, hl, hob⟩ := H1.get ho (by simp) (by simp)
  exact z_row hl hob (hu.later lt (fun _ _ h => h))
 ·split at hf
  ·rename_i v' hv
   cases hf
   exact (frz1_ok hv hu).later lt
  ·cases hf
theorem frzAs_ok {rd : List Nat} (H : RepH P ext w0 own0 locs h w) : ∀ {cs : List AV} {l : List FV} {i : List Nat}, frzAs h cs = some (l, i) → (∀ k ∈ i, k ∈ rd) → l.length = cs.length ∧
  ∀ (vs : List Value), (∀ (j : Nat) (x : AV), cs[j]? = some x → ∃ u, vs[j]? = some u ∧ RA w (Bar ext locs h) locs x u) → ∀ (j : Nat) (x : FV), l[j]? = some x → ∃ u, vs[j]? = some u ∧ RF w (Bar ext locs (putOs h (zs h rd))) x u
 | [], l, i, hf, hi => by cases hf; exact ⟨rfl, by simp⟩
 | a :: r, l, i, hf, hi => by
  unfold frzAs at hf
  split at hf
  ·rename_i v i1 hv
   split at hf
   ·rename_i l' i2 hl'
    cases hf
    obtain ⟨h1, h2⟩ := frzAs_ok (rd := rd) H hl' (fun k hk => hi k (by simp [hk]))
    refine ⟨by simp [h1], fun vs hvs j x hx => ?_⟩
    cases j with
    | zero => cases hx; obtain ⟨u, hu, hr⟩ := hvs 0 a rfl; exact ⟨u, hu, frzA_ok hv (fun k hk => hi k (by simp [hk])) H hr⟩
    | succ j =>
     obtain ⟨u, hu, hr⟩ := h2 (vs.drop 1) (fun j x hx => by obtain ⟨u, hu, hr⟩ := hvs (j + 1) x hx; exact ⟨u, by rw [List.getElem?_drop, Nat.add_comm]; exact hu, hr⟩) j x hx
     exact ⟨u, by rw [List.getElem?_drop, Nat.add_comm] at hu; exact hu, hr⟩
   ·cases hf
  ·cases hf
theorem frzTO_ok {rd : List Nat} (H : RepH P ext w0 own0 locs h w) {t r : TV} {i : List Nat} (hf : frzTO h t = some (r, i)) (hi : ∀ k ∈ i, k ∈ rd) {u : Value} (hu : RT w (Bar ext locs h) locs t u) (locs' : Locs) :
  RT w (Bar ext locs (putOs h (zs h rd))) locs' r u := by
 unfold frzTO at hf
 split at hf
 ·split at hf
  ·rename_i a v i1 hv
   cases hf
   exact frzA_ok hv hi H hu
  ·cases hf
 ·split at hf
  ·rename_i cs l i1 hl
   cases hf
   obtain ⟨vs, h1, h2, h3, h4⟩ := hu
   obtain ⟨h5, h6⟩ := frzAs_ok (rd := rd) H hl hi
   refine ⟨vs, h1, by rw [h2]; simp [h5], h3, fun j x hx => ?_⟩
   obtain ⟨y, hy, rfl⟩ := map_fz hx
   obtain ⟨u, hu, hr⟩ := h6 vs h4 j y hy
   exact ⟨u, hu, hr⟩
  ·cases hf
 ·cases hf
theorem frzTOs_ok {rd : List Nat} (H : RepH P ext w0 own0 locs h w) : ∀ {ts rs : List TV} {i : List Nat}, frzTOs h ts = some (rs, i) → (∀ k ∈ i, k ∈ rd) → rs.length = ts.length ∧
  ∀ (vs : List Value), (∀ (j : Nat) (x : TV), ts[j]? = some x → ∃ u, vs[j]? = some u ∧ RT w (Bar ext locs h) locs x u) → ∀ (locs' : Locs) (j : Nat) (x : TV), rs[j]? = some x → ∃ u, vs[j]? = some u ∧ RT w (Bar ext locs (putOs h (zs h rd))) locs' x u
 | [], rs, i, hf, hi => by cases hf; exact ⟨rfl, by simp⟩
 | a :: r, rs, i, hf, hi => by
  unfold frzTOs at hf
  split at hf
  ·rename_i v i1 hv
   split at hf
   ·rename_i l' i2 hl'
    cases hf
    obtain ⟨h1, h2⟩ := frzTOs_ok (rd := rd) H hl' (fun k hk => hi k (by simp [hk]))
    refine ⟨by simp [h1], fun vs hvs locs' j x hx => ?_⟩
    cases j with
    | zero => cases hx; obtain ⟨u, hu, hr⟩ := hvs 0 a rfl; exact ⟨u, hu, frzTO_ok H hv (fun k hk => hi k (by simp [hk])) hr locs'⟩
    | succ j =>
     obtain ⟨u, hu, hr⟩ := h2 (vs.drop 1) (fun j x hx => by obtain ⟨u, hu, hr⟩ := hvs (j + 1) x hx; exact ⟨u, by rw [List.getElem?_drop, Nat.add_comm]; exact hu, hr⟩) locs' j x hx
     exact ⟨u, by rw [List.getElem?_drop, Nat.add_comm] at hu; exact hu, hr⟩
   ·cases hf
  ·cases hf
theorem call_core (H : RepH P ext w0 own0 locs h w) {g : FuncId} {args ags : List TV} {rd : List Nat} (hf : frzTOs h args = some (ags, rd)) {r : TV} {hr : List Ob} (F : Fn P g ags [] r hr) {vals : Array Value} (hv : vals.size = args.length)
  (hrep : ∀ (i : Nat) (x : TV), args[i]? = some x → ∃ v, vals[i]? = some v ∧ RT w (Bar ext locs h) locs x v) :
  Calls P g vals w fun e w' => ∃ v locs', e = .returned v ∧ RepH P (Bar ext locs (putOs h (zs h rd))) w ⟨fun _ => False, fun _ => none, []⟩ locs' hr w' ∧ RT w' (Bar (Bar ext locs (putOs h (zs h rd))) locs' hr) locs' r v := by
 obtain ⟨H1, lt, hlen, _⟩ := zs_ok rd H
 obtain ⟨h1, h2⟩ := frzTOs_ok (rd := rd) H hf (fun _ h => h)
 have hown : ∀ b, ¬ ownB noL [] b := by rintro b ⟨o, l, d, ob, h1, _⟩; simp at h1
 have hH : RepH P (Bar ext locs (putOs h (zs h rd))) w ⟨ownB noL [], fun _ => none, []⟩ noL [] w :=
  ⟨fun _ _ => rfl, fun o ob ho => by simp at ho, fun o o' l l' ob ob' d d' _ ho => by simp at ho, fun b _ hb => hown b hb, fun b hb => hb.elim (fun hb => H1.extlt b hb) (fun hb => H1.own_lt hb), fun b _ hb => hb, Since.refl _ _, H1.baseAt (fun b hb => absurd hb (hown b)) (fun b hb => H1.barTab b hb), fun _ _ h => h, fun _ _ h => h.elim⟩
 have hbar : ∀ b, Bar (Bar ext locs (putOs h (zs h rd))) noL [] b ↔ Bar ext locs (putOs h (zs h rd)) b := fun b => ⟨fun hb => hb.elim id (fun hb => absurd hb (hown b)), .inl⟩
 refine (F _ w _ vals hH (by rw [hv, h1]) (fun i x hx => ?_)).mono fun e w' ⟨v, locs', he, hH', hRT⟩ => ⟨v, locs', he, ?_, hRT⟩
 ·obtain ⟨u, hu, hra⟩ := h2 vals.toList (fun j x hx => by obtain ⟨u, hu, hra⟩ := hrep j x hx; exact ⟨u, by simpa using hu, hra⟩) noL i x hx
  exact ⟨u, by simpa using hu, hra.later ⟨fun _ _ _ => rfl, fun b _ hb => (hbar b).1 hb⟩ (fun _ _ h => h)⟩
 ·exact ⟨hH'.len, hH'.ob, hH'.apart, hH'.extOwn, hH'.extlt, fun b hb ho => absurd (hH'.ownOld b hb ho) (hown b), ⟨hH'.since.size, fun b hb _ => hH'.since.block b hb (hown b), hH'.since.os, hH'.since.tape, hH'.since.output⟩, ⟨hH'.base.glob, fun b hb => hb.elim, hH'.base.ext⟩, fun _ _ h => (by cases h), hH'.ownlt⟩
end
end
section
theorem getO_congr {h h' : List Ob} {o : Nat} (e : h'[o]? = h[o]?) : getO h' o = getO h o := by simp [getO, List.getD_eq_getElem?_getD, e]
theorem frzA_congr {h h' : List Ob} {a : AV} {v : FV} {i : List Nat} (hf : frzA h a = some (v, i)) (hi : ∀ k ∈ i, h'[k]? = h[k]?) : frzA h' a = some (v, i) := by
 unfold frzA at hf ⊢
 split at hf
 ·rename_i sz o
  have ho : getO h' o = getO h o := by
   refine getO_congr (hi o ?_)
   split at hf
   ·split at hf
    ·cases hf; simp
    ·cases hf
   ·split at hf
    ·cases hf; simp
    ·cases hf
   ·split at hf
    ·cases hf; simp
    ·cases hf
   ·cases hf
  simp only [ho]
  exact hf
 ·exact hf
theorem frzAs_congr {h h' : List Ob} : ∀ {cs : List AV} {l : List FV} {i : List Nat}, frzAs h cs = some (l, i) → (∀ k ∈ i, h'[k]? = h[k]?) → frzAs h' cs = some (l, i)
 | [], l, i, hf, hi => hf
 | a :: r, l, i, hf, hi => by
  unfold frzAs at hf ⊢
  split at hf
  ·rename_i v i1 hv
   split at hf
   ·rename_i l' i2 hl'
    cases hf
    rw [frzA_congr hv (fun k hk => hi k (by simp [hk])), frzAs_congr hl' (fun k hk => hi k (by simp [hk]))]
   ·cases hf
  ·cases hf
theorem frzTO_congr {h h' : List Ob} {t r : TV} {i : List Nat} (hf : frzTO h t = some (r, i)) (hi : ∀ k ∈ i, h'[k]? = h[k]?) : frzTO h' t = some (r, i) := by
 unfold frzTO at hf ⊢
 split at hf
 ·split at hf
  ·rename_i a v i1 hv
   cases hf
   simp [frzA_congr hv hi]
  ·cases hf
 ·split at hf
  ·rename_i cs l i1 hl
   cases hf
   simp [frzAs_congr hl hi]
  ·cases hf
 ·cases hf
theorem frzTOs_congr {h h' : List Ob} : ∀ {ts rs : List TV} {i : List Nat}, frzTOs h ts = some (rs, i) → (∀ k ∈ i, h'[k]? = h[k]?) → frzTOs h' ts = some (rs, i)
 | [], rs, i, hf, hi => hf
 | a :: r, rs, i, hf, hi => by
  unfold frzTOs at hf ⊢
  split at hf
  ·rename_i v i1 hv
   split at hf
   ·rename_i l' i2 hl'
    cases hf
    rw [frzTO_congr hv (fun k hk => hi k (by simp [hk])), frzTOs_congr hl' (fun k hk => hi k (by simp [hk]))]
   ·cases hf
  ·cases hf
theorem zs_congr : ∀ (rd : List Nat) {h h' : List Ob}, (∀ k ∈ rd, h'[k]? = h[k]?) → zs h' rd = zs h rd
 | [], _, _, _ => rfl
 | o :: r, h, h', hr => by
  unfold zs
  rw [getO_congr (hr o (by simp))]
  split
  ·rename_i z hg
   have ho : h[o]? = some (getO h o) := getO_some rfl (frzOb_ne hg).1
   have ho' : h'[o]? = some (getO h o) := by rw [hr o (by simp)]; exact ho
   rw [zs_congr (h := h.set o z) (h' := h'.set o z) r (fun k hk => by rw [set_get ho', set_get ho, hr k (by simp [hk])])]
  ·exact zs_congr r (fun k hk => hr k (by simp [hk]))
def FV.bare : FV → Bool
 | .int .. | .bool _ | .str _ | .ifc _ => true
 | _ => false
theorem exC_bare : ∀ {ks : List CK} {K : List FV → Prop}, ks.all CK.bare = true → exC ks K → ∃ cs, K cs ∧ ∀ v ∈ cs, v.bare = true
 | [], K, _, h => ⟨[], h, by simp⟩
 | .int k :: r, K, hb, ⟨n, h⟩ => let ⟨cs, hc, hv⟩ := exC_bare (by simp only [List.all_cons, Bool.and_eq_true] at hb; exact hb.2) h; ⟨_, hc, by simp only [List.mem_cons]; rintro v (rfl | h); exact rfl; exact hv v h⟩
 | .bool :: r, K, hb, ⟨n, h⟩ => let ⟨cs, hc, hv⟩ := exC_bare (by simp only [List.all_cons, Bool.and_eq_true] at hb; exact hb.2) h; ⟨_, hc, by simp only [List.mem_cons]; rintro v (rfl | h); exact rfl; exact hv v h⟩
 | .str :: r, K, hb, ⟨n, h⟩ => let ⟨cs, hc, hv⟩ := exC_bare (by simp only [List.all_cons, Bool.and_eq_true] at hb; exact hb.2) h; ⟨_, hc, by simp only [List.mem_cons]; rintro v (rfl | h); exact rfl; exact hv v h⟩
 | .ifc :: r, K, hb, ⟨n, h⟩ => let ⟨cs, hc, hv⟩ := exC_bare (by simp only [List.all_cons, Bool.and_eq_true] at hb; exact hb.2) h; ⟨_, hc, by simp only [List.mem_cons]; rintro v (rfl | h); exact rfl; exact hv v h⟩
 | .sl sz :: r, K, hb, h => by simp [CK.bare] at hb
 | .x :: r, K, hb, h => by simp [CK.bare] at hb
def allFz (l : List (Bool × List AV)) : Prop := ∀ (b : Bool) (cs : List AV), (b, cs) ∈ l → ∃ fs : List FV, cs = fs.map .fz
def allBare (l : List (Bool × List AV)) : Prop := ∀ (b : Bool) (cs : List AV), (b, cs) ∈ l → ∃ fs : List FV, cs = fs.map .fz ∧ ∀ v ∈ fs, v.bare = true
theorem exRs_fz {P : Program} : ∀ {ts : List TypeId} {K : List (Bool × List AV) → Prop}, exRs P ts K → ∃ l, K l ∧ allFz l
 | [], K, h => ⟨[], h, fun _ _ h => by cases h⟩
 | t :: r, K, h => by
  obtain ⟨cs, h⟩ := exC_out h
  obtain ⟨l, h, hl⟩ := exRs_fz h
  refine ⟨_, h, fun b c hm => ?_⟩
  cases hm with
  | head => exact ⟨cs, rfl⟩
  | tail _ hm => exact hl b c hm
theorem exRs_bare {P : Program} : ∀ {ts : List TypeId} {K : List (Bool × List AV) → Prop}, ts.all (fun t => (kinds P t).all CK.bare) = true → exRs P ts K → ∃ l, K l ∧ allBare l
 | [], K, _, h => ⟨[], h, fun _ _ h => by cases h⟩
 | t :: r, K, hb, h => by
  simp only [List.all_cons, Bool.and_eq_true] at hb
  obtain ⟨cs, h, hv⟩ := exC_bare hb.1 h
  obtain ⟨l, h, hl⟩ := exRs_bare hb.2 h
  refine ⟨_, h, fun b c hm => ?_⟩
  cases hm with
  | head => exact ⟨cs, rfl, hv⟩
  | tail _ hm => exact hl b c hm
theorem RF.bare {w w' : World} {B B' : Nat → Prop} {x : FV} {v : Value} (hb : x.bare = true) (h : RF w B x v) : RF w' B' x v := by
 cases h <;> first | exact .int _ _ | exact .bool _ | exact .str _ | exact .ifcN | exact .ifcS _ _ | cases hb
theorem RC.bare {w w' : World} {B B' : Nat → Prop} {locs locs' : Locs} {b : Bool} {fs : List FV} {v : Value} (hb : ∀ x ∈ fs, x.bare = true) (h : RC w B locs b (fs.map .fz) v) : RC w' B' locs' b (fs.map .fz) v := by
 obtain ⟨vs, h1, h2, h3, h4⟩ := h
 refine ⟨vs, h1, h2, h3, fun j x hx => ?_⟩
 obtain ⟨y, hy, rfl⟩ := map_fz hx
 obtain ⟨u, hu, hr⟩ := h4 j _ hx
 exact ⟨u, hu, RF.bare (hb y (List.mem_of_getElem? hy)) hr⟩
theorem toTV_rep {w w' : World} {B B' : Nat → Prop} {locs locs' : Locs} {l l' : List (Bool × List AV)} (hl : l'.length = l.length)
  (hc : ∀ (i : Nat) (b : Bool) (cs : List AV), l[i]? = some (b, cs) → ∃ cs', l'[i]? = some (b, cs') ∧ cs'.length = cs.length ∧ ∀ v, RC w B locs b cs v → RC w' B' locs' b cs' v) {v : Value} (h : RT w B locs (toTV l) v) : RT w' B' locs' (toTV l') v := by
 have key : ∀ ts ts' : List (Bool × List AV), ts'.length = ts.length → (∀ (i : Nat) (b : Bool) (cs : List AV), ts[i]? = some (b, cs) → ∃ cs', ts'[i]? = some (b, cs') ∧ cs'.length = cs.length ∧ ∀ v, RC w B locs b cs v → RC w' B' locs' b cs' v) →
   RT w B locs (.tup ts) v → RT w' B' locs' (.tup ts') v := by
  rintro ts ts' h1 h2 ⟨vs, h3, h4, h5⟩
  refine ⟨vs, h3, by rw [h4, h1], fun i b cs' hi => ?_⟩
  have hlt : i < ts.length := by
   rcases Nat.lt_or_ge i ts'.length with h' | h'
   ·omega
   ·rw [List.getElem?_eq_none h'] at hi; cases hi
  obtain ⟨cs'', h6, _, h7⟩ := h2 i ts[i].1 ts[i].2 (List.getElem?_eq_getElem _)
  rw [hi] at h6
  cases h6
  obtain ⟨u, hu, hr⟩ := h5 i _ _ (List.getElem?_eq_getElem (l := ts) hlt)
  exact ⟨u, hu, h7 u hr⟩
 cases l with
 | nil =>
  cases l' with
  | nil => exact key [] [] rfl hc h
  | cons _ _ => simp at hl
 | cons p r =>
  cases l' with
  | nil => simp at hl
  | cons p' r' =>
   obtain ⟨b, cs⟩ := p
   obtain ⟨cs', h1, h2, h3⟩ := hc 0 b cs rfl
   cases h1
   cases r with
   | cons q r =>
    cases r' with
    | nil => simp at hl
    | cons q' r' =>
     have e1 : ∀ (p q : Bool × List AV) (r : List (Bool × List AV)), toTV (p :: q :: r) = .tup (p :: q :: r) := by
      intro p q r; rcases p with ⟨_ | _, _ | ⟨_, _ | _⟩⟩ <;> rfl
     rw [e1] at h ⊢
     exact key _ _ hl hc h
   | nil =>
    cases r' with
    | cons _ _ => simp at hl
    | nil =>
     cases b with
     | true => exact h3 v h
     | false =>
      cases cs with
      | nil =>
       have : cs' = [] := List.eq_nil_of_length_eq_zero h2
       subst this
       exact key _ _ rfl hc h
      | cons a cs =>
       cases cs with
       | nil =>
        obtain ⟨a', rfl⟩ : ∃ a', cs' = [a'] := List.length_eq_one_iff.1 h2
        have := h3 v ⟨[v], rfl, rfl, fun _ => rfl, fun j x hx => by
         cases j with
         | zero => cases hx; exact ⟨v, rfl, h⟩
         | succ j => simp at hx⟩
        obtain ⟨vs, h4, h5, h6, h7⟩ := this
        obtain ⟨u, hu, hr⟩ := h7 0 a' rfl
        cases vs with
        | nil => simp at hu
        | cons y ys => cases hu; rw [h4]; exact hr
       | cons a2 cs =>
        obtain ⟨a', b', c', rfl⟩ : ∃ a' b' c', cs' = a' :: b' :: c' := by
         match cs', h2 with
         | x :: y :: z, _ => exact ⟨x, y, z, rfl⟩
        exact key [(false, a :: a2 :: cs)] [(false, a' :: b' :: c')] rfl hc h
def AV.sh (n : Nat) : AV → AV
 | .ofl sz o => .ofl sz (n + o)
 | a => a
theorem ownA_sh (n k : Nat) : ∀ (fs : List FV), (ownA (n + k) (fs.map .fz)).1 = (ownA k (fs.map .fz)).1.map (AV.sh n) ∧ (ownA (n + k) (fs.map .fz)).2 = (ownA k (fs.map .fz)).2 := by
 intro fs
 induction fs generalizing k with
 | nil => exact ⟨rfl, rfl⟩
 | cons v fs ih =>
  cases v with
  | sl sz es =>
   obtain ⟨h1, h2⟩ := ih (k + 1)
   simp only [List.map_cons, ownA]
   rw [Nat.add_assoc, h1, h2]
   exact ⟨rfl, rfl⟩
  | _ =>
   obtain ⟨h1, h2⟩ := ih k
   simp only [List.map_cons, ownA]
   rw [h1, h2]
   exact ⟨rfl, rfl⟩
theorem ownR_sh (n : Nat) : ∀ (l : List (Bool × List AV)) (k : Nat), allFz l → (ownR (n + k) l).1 = (ownR k l).1.map (fun p => (p.1, p.2.map (AV.sh n))) ∧ (ownR (n + k) l).2 = (ownR k l).2
 | [], k, _ => ⟨rfl, rfl⟩
 | (b, cs) :: r, k, hl => by
  obtain ⟨fs, rfl⟩ := hl b cs (by simp)
  obtain ⟨h1, h2⟩ := ownA_sh n k fs
  obtain ⟨h3, h4⟩ := ownR_sh n r (k + (ownA k (fs.map .fz)).2.length) (fun b cs hm => hl b cs (by simp [hm]))
  simp only [ownR]
  rw [h2, h1, Nat.add_assoc, h3, h4]
  exact ⟨rfl, rfl⟩
theorem ownA_f (k : Nat) : ∀ (fs : List FV) (ob : Ob), ob ∈ (ownA k (fs.map .fz)).2 → ∃ et sz es, ob = .f et sz es := by
 intro fs
 induction fs generalizing k with
 | nil => intro ob h; cases h
 | cons v fs ih =>
  intro ob h
  cases v with
  | sl sz es =>
   simp only [List.map_cons, ownA] at h
   cases h with
   | head => exact ⟨_, _, _, rfl⟩
   | tail _ h => exact ih _ ob h
  | _ => simp only [List.map_cons, ownA] at h; exact ih _ ob h
theorem ownR_f : ∀ (l : List (Bool × List AV)) (k : Nat), allFz l → ∀ (ob : Ob), ob ∈ (ownR k l).2 → ∃ et sz es, ob = .f et sz es
 | [], k, _, ob, h => by cases h
 | (b, cs) :: r, k, hl, ob, h => by
  obtain ⟨fs, rfl⟩ := hl b cs (by simp)
  simp only [ownR, List.mem_append] at h
  rcases h with h | h
  ·exact ownA_f k fs ob h
  ·exact ownR_f r _ (fun b cs hm => hl b cs (by simp [hm])) ob h
theorem ownA_row (k : Nat) : ∀ (fs : List FV) (y : AV), y ∈ (ownA k (fs.map .fz)).1 → (∃ v, y = .fz v) ∨ ∃ sz o, y = .ofl sz o := by
 intro fs
 induction fs generalizing k with
 | nil => intro ob h; cases h
 | cons v fs ih =>
  intro y h
  cases v with
  | sl sz es =>
   simp only [List.map_cons, ownA] at h
   cases h with
   | head => exact .inr ⟨_, _, rfl⟩
   | tail _ h => exact ih _ y h
  | _ =>
   simp only [List.map_cons, ownA] at h
   cases h with
   | head => exact .inl ⟨_, rfl⟩
   | tail _ h => exact ih _ y h
theorem ownR_row : ∀ (l : List (Bool × List AV)) (k : Nat), allFz l → ∀ (b : Bool) (cs : List AV), (b, cs) ∈ (ownR k l).1 → ∀ y ∈ cs, (∃ v, y = .fz v) ∨ ∃ sz o, y = .ofl sz o
 | [], k, _, b, cs, h => by cases h
 | (b, cs) :: r, k, hl, b', cs', h => by
  obtain ⟨fs, rfl⟩ := hl b cs (by simp)
  simp only [ownR] at h
  cases h with
  | head => exact ownA_row k fs
  | tail _ h => exact ownR_row r _ (fun b cs hm => hl b cs (by simp [hm])) b' cs' h
theorem putOs_append (n : Nat) : ∀ (hr : List Ob) (k : Nat) (h : List Ob), h.length = n + k → putOs h ((hr.zipIdx k).map fun (ob, j) => (n + j, ob)) = h ++ hr
 | [], k, h, _ => by simp [putOs]
 | ob :: hr, k, h, hl => by
  simp only [List.zipIdx_cons, List.map_cons, putOs]
  have : putO h (n + k) ob = h ++ [ob] := by simp [putO, hl]
  rw [this, putOs_append n hr (k + 1) (h ++ [ob]) (by simp [hl]; omega)]
  simp
theorem putOs_app (h : List Ob) : ∀ (a b : List (Nat × Ob)), putOs h (a ++ b) = putOs (putOs h a) b
 | [], b => rfl
 | (o, ob) :: a, b => putOs_app (putO h o ob) a b
section
variable {P : Program} {ext : Nat → Prop} {w0 : World} {own0 : Own0} {locs locs' : Locs} {h hr : List Ob} {w w' : World}
def jnL (locs locs' : Locs) (n : Nat) : Locs := ⟨fun o => if o < n then locs o else locs' (o - n), fun o => if o < n then locs.own o else locs'.own (o - n)⟩
theorem jnL_lt {n o : Nat} (h : o < n) : jnL locs locs' n o = locs o := if_pos h
theorem jnL_ge {n o : Nat} (h : ¬ o < n) : jnL locs locs' n o = locs' (o - n) := if_neg h
theorem jnL_own_lt {n o : Nat} (h : o < n) : (jnL locs locs' n).own o = locs.own o := if_pos h
theorem jnL_own_ge {n o : Nat} (h : ¬ o < n) : (jnL locs locs' n).own o = locs'.own (o - n) := if_neg h
theorem jnL_hs_lt {n o : Nat} (h : o < n) {l : Loc} {d : Addr} : (jnL locs locs' n).hs o l d ↔ locs.hs o l d := by unfold Locs.hs; rw [jnL_own_lt h]
theorem jnL_hs_ge {n o : Nat} (h : ¬ o < n) {l : Loc} {d : Addr} : (jnL locs locs' n).hs o l d ↔ locs'.hs (o - n) l d := by unfold Locs.hs; rw [jnL_own_ge h]
theorem RepH.join (H : RepH P ext w0 own0 locs h w) (H' : RepH P (Bar ext locs h) w ⟨fun _ => False, fun _ => none, []⟩ locs' hr w') (hf : ∀ ob ∈ hr, ∃ et sz es, ob = .f et sz es) :
  RepH P ext w0 own0 (jnL locs locs' h.length) (h ++ hr) w' ∧
   Later w (Bar ext locs h) w' (Bar ext (jnL locs locs' h.length) (h ++ hr)) ∧
   ∀ b, Bar ext (jnL locs locs' h.length) (h ++ hr) b → Bar (Bar ext locs h) locs' hr b := by
 have hown : ∀ b, ownB (jnL locs locs' h.length) (h ++ hr) b → ownB locs h b ∨ ownB locs' hr b := by
  rintro b ⟨o, l, d, ob, h1, h2, h3, h4, rfl⟩
  by_cases ho : o < h.length
  ·rw [List.getElem?_append_left ho] at h1
   rw [jnL_lt ho] at h3
   exact .inl ⟨o, l, d, ob, h1, h2, h3, (jnL_hs_lt ho).1 h4, rfl⟩
  ·rw [List.getElem?_append_right (by omega)] at h1
   rw [jnL_ge ho] at h3
   exact .inr ⟨o - h.length, l, d, ob, h1, h2, h3, (jnL_hs_ge ho).1 h4, rfl⟩
 have hbar : ∀ b, Bar ext (jnL locs locs' h.length) (h ++ hr) b → Bar (Bar ext locs h) locs' hr b := by
  rintro b (hb | hb)
  ·exact .inl (.inl hb)
  ·rcases hown b hb with hb | hb
   ·exact .inl (.inr hb)
   ·exact .inr hb
 have st := H.step (w' := w') (locs' := jnL locs locs' h.length) (h' := h ++ hr) (fun o => h.length ≤ o) (fun _ => False) (fun b hb _ => H'.since.block b hb (fun h => h)) H'.since.size H'.since.os H'.since.tape H'.since.output (fun _ _ hd => hd.elim)
  (fun o x hx => by
   have : o < h.length := by
    rcases Nat.lt_or_ge o h.length with h' | h'
    ·exact h'
    ·rw [H.len o h'] at hx; cases hx
   rw [jnL_lt this]; exact hx)
  (fun o ho => by
   simp only [List.length_append] at ho
   rw [jnL_ge (show ¬ o < h.length by omega)]
   exact H'.len _ (by omega))
  (fun o ob hc ho => by
   have hlt : o < h.length := by omega
   rw [List.getElem?_append_left hlt] at ho
   exact ⟨ho, jnL_lt hlt, jnL_own_lt hlt⟩)
  (fun o b hb => by
   by_cases ho : o < h.length
   ·rw [jnL_own_lt ho] at hb; exact Nat.lt_of_lt_of_le (H.ownlt o b hb) H'.since.size
   ·rw [jnL_own_ge ho] at hb; exact H'.ownlt _ b hb)
  (fun _ _ _ _ _ _ _ _ _ hd => hd)
  (fun b hb ho => (hown b ho).elim id (fun ho => (H'.ownOld b hb ho).elim))
  (fun o o' l l' ob ob' d d' hc hne ho ho' hlv hlv' hl hl' hd hd' => by
   have hlt : ¬ o < h.length := by omega
   rw [List.getElem?_append_right hc] at ho
   rw [jnL_ge hlt] at hl
   have hd := (jnL_hs_ge hlt).1 hd
   have h1 : ownB locs' hr d.block := ⟨o - h.length, l, d, ob, ho, hlv, hl, hd, rfl⟩
   by_cases ho2 : o' < h.length
   ·rw [List.getElem?_append_left ho2] at ho'
    rw [jnL_lt ho2] at hl'
    have hd' := (jnL_hs_lt ho2).1 hd'
    have h2 : ownB locs h d'.block := ⟨o', l', d', ob', ho', hlv', hl', hd', rfl⟩
    intro e
    rw [e] at h1
    exact H'.ownOld _ (H.own_lt h2) h1
   ·rw [List.getElem?_append_right (by omega)] at ho'
    rw [jnL_ge ho2] at hl'
    have hd' := (jnL_hs_ge ho2).1 hd'
    exact H'.apart _ _ l l' ob ob' d d' (by omega) ho ho' hlv hlv' hl hl' hd hd')
  (fun lt o ob hc ho => by
   rw [List.getElem?_append_right hc] at ho
   obtain ⟨et, sz, es, rfl⟩ := hf ob (List.mem_of_getElem? ho)
   obtain ⟨l, hl, hob⟩ := H'.get ho (by simp) (by simp)
   refine .inr (.inr ⟨l, by rw [jnL_ge (show ¬ o < h.length by omega)]; exact hl, ?_⟩)
   rw [jnL_own_ge (show ¬ o < h.length by omega)]
   have := hob.later (w' := w') (B' := Bar ext (jnL locs locs' h.length) (h ++ hr)) (locs' := locs') ⟨fun _ _ _ => rfl, fun b _ hb => hbar b hb⟩ (fun _ _ h => h) (fun _ _ _ => rfl) (fun _ _ _ => rfl)
   exact this)
 exact ⟨st.1, st.2, hbar⟩
end
end
section
def OpSeq (P : Program) (o : Oper) (t : List TV) (h : List Ob) (v : TV) (wr : List (Nat × Ob)) : Prop :=
 ∀ (ext : Nat → Prop) (w0 : World) (own0 : Own0) (a : Act) (w : World) (Q : Exit → Act → World → Prop), Rep P ext w0 own0 ⟨t, h⟩ a w →
  o.wp P a w (fun a' w' => Rep P ext w0 own0 ⟨putT t o.dst v, putOs h wr⟩ a' w') Q
theorem OpOK.seq {P : Program} {o : Oper} {t : List TV} {h : List Ob} {v : TV} {wr : List (Nat × Ob)} {rd : List Nat} (hk : OpOK P o t h h.length v wr rd) : OpSeq P o t h v wr :=
 fun ext w0 own0 a w Q R => hk ext w0 own0 t h a w Q rfl (fun _ _ => rfl) (fun _ _ => rfl) (.inl rfl) R
def capT : Bool × List FV → TV
 | (true, l) => .agg (l.map .fz)
 | (false, [v]) => .one (.fz v)
 | _ => .und
def evCall (P : Program) (M : Mode) (dr : Bool) (fo : Operand) (args : List Operand) (t : List TV) (h : List Ob) (id : Nat) (K : OpK) : Prop :=
 match ev t fo with
 | .one (.fz (.fn g caps)) => evCallF P M dr g (args.map (ev t) ++ caps.map capT) h id K
 | _ => False
theorem capT_ok {w : World} {B : Nat → Prop} {locs : Locs} {b : Bool} {l : List FV} {vs : List Value} (hl : vs.length = l.length) (hr : ∀ (j : Nat) (x : FV) (v : Value), l[j]? = some x → vs[j]? = some v → RF w B x v) : RT w B locs (capT (b, l)) (mkV b vs) := by
 cases b with
 | true =>
  refine ⟨vs, rfl, by simp [hl], by simp, fun j x hx => ?_⟩
  obtain ⟨y, hy, rfl⟩ := map_fz hx
  have hj : j < vs.length := by
   rw [hl]
   rcases Nat.lt_or_ge j l.length with h' | h'
   ·exact h'
   ·rw [List.getElem?_eq_none h'] at hy; cases hy
  exact ⟨vs[j], List.getElem?_eq_getElem _, hr j y _ hy (List.getElem?_eq_getElem _)⟩
 | false =>
  match l, vs, hl, hr with
  | [], _, _, _ => trivial
  | [v], [u], _, hr => exact hr 0 v u rfl rfl
  | _ :: _ :: _, _, _, _ => trivial
theorem run_callFunc {P : Program} {g : FuncId} {fn : Func} (hf : P.funcs[g]? = some fn) (hb : fn.body.isSome = true) (hn : (fn.name == "runtime.NumGoroutine") = false) (args : Array Value) (w : World) : (callFunc g args).run P w = .ok (.enter g args) w := by
 have hb' : fn.body.isNone = false := by cases h : fn.body <;> simp_all
 unfold callFunc
 rw [Sem.run_bind]
 show Sem.run P (match P.funcs[g]? with | none => _ | some fn => _) w = _
 rw [hf]
 simp only [hn, Bool.false_eq_true, if_false, hb']
 rfl
theorem wp_enter {P : Program} {o : Oper} {a : Act} {w : World} {g : FuncId} {vals : Array Value} {K : Act → World → Prop} {Q : Exit → Act → World → Prop} (h : (execOp a.eval o).run P w = .ok (.enter g vals) w)
  (hk : Calls P g vals w fun e w' => ∃ v, e = .returned v ∧ K (a.put o.dst v) w') : o.wp P a w K Q := by
 unfold Oper.wp
 rw [h]
 exact hk.mono fun e w' ⟨v, he, hkv⟩ => by subst he; exact hkv
theorem call_vals {P : Program} {o : Oper} {fo : Operand} {args argTypes : _} (hop : o.op = .call { callee := .value fo, args := args, argTypes := argTypes }) {t : List TV} {g : FuncId} {caps : List (Bool × List FV)} {fn : Func}
  (hfo : ev t fo = .one (.fz (.fn g caps))) (hfn : P.funcs[g]? = some fn) (hb : fn.body.isSome = true) (hn : (fn.name == "runtime.NumGoroutine") = false)
  {w : World} {B : Nat → Prop} {locs : Locs} {t' : List TV} {a : Act} (hag : ∀ x ∈ o.op.operands, ev t' x = ev t x) (RTm : RepT w B locs t' a) (ts : List TypeId) :
  ∃ vals : Array Value, (execOp a.eval o).run P w = .ok (.enter g vals) w ∧ vals.size = (argsK P ts (args.toList.map (ev t) ++ caps.map capT)).length ∧
   ∀ (i : Nat) (x : TV), (argsK P ts (args.toList.map (ev t) ++ caps.map capT))[i]? = some x → ∃ v, vals[i]? = some v ∧ RT w B locs x v := by
 have hp := ev_rep RTm fo
 rw [hag fo (by rw [hop]; simp [Op.operands, Call.operands]), hfo] at hp
 generalize hq : a.eval fo = q at hp
 cases hp with
 | fn g caps vs cvs hcn hcv hcr =>
  obtain ⟨h1, h2⟩ := argsK_ok (P := P) (w := w) (B := B) (locs := locs) ts (args.toList.map (ev t) ++ caps.map capT)
  refine ⟨args.map a.eval ++ cvs, ?_, by rw [h1]; simp [hcn], fun i x hx => ?_⟩
  ·unfold execOp
   rw [hop]
   simp [resolve, hq, Deferred.ofValue, invoke, run_callFunc hfn hb hn]
  ·obtain ⟨y, hy, hxy⟩ := h2 i x hx
   by_cases hi : i < args.size
   ·rw [List.getElem?_append_left (by simpa using hi)] at hy
    simp only [List.getElem?_map, Option.map_eq_some_iff] at hy
    obtain ⟨z, hz, rfl⟩ := hy
    have hmem : z ∈ args := by
     have := List.mem_of_getElem? hz
     simpa using this
    have hr := ev_rep RTm z
    rw [hag z (by rw [hop]; simp [Op.operands, Call.operands, hmem])] at hr
    refine ⟨a.eval z, ?_, hxy _ hr⟩
    rw [Array.getElem?_append_left (by simpa using hi)]
    have hz' : args[i]? = some z := by simpa using hz
    simp [hz']
   ·rw [List.getElem?_append_right (by simpa using hi)] at hy
    simp only [List.getElem?_map, Option.map_eq_some_iff, List.length_map, Array.length_toList] at hy
    obtain ⟨⟨b, l⟩, hz, rfl⟩ := hy
    obtain ⟨h3, h4⟩ := hcv _ b l hz
    refine ⟨mkV b (vs (i - args.size)), ?_, hxy _ (capT_ok h3 (fun j x v h5 h6 => hcr _ b l j x v hz h5 h6))⟩
    rw [Array.getElem?_append_right (by simp; omega)]
    simpa using h4
theorem kept_rep {w : World} {B : Nat → Prop} {locs locs' locs2 : Locs} {l : List (Bool × List AV)} (hl : allFz l) {v : Value} (h : RT w (Bar B locs' []) locs2 (toTV l) v) : RT w B locs (toTV l) v := by
 have hlt : Later w (Bar B locs' []) w B := ⟨fun _ _ _ => rfl, fun b _ hb => .inl hb⟩
 refine toTV_rep rfl (fun i b cs hi => ⟨cs, hi, rfl, fun v hv => ?_⟩) h
 obtain ⟨fs, rfl⟩ := hl b cs (List.mem_of_getElem? hi)
 obtain ⟨vs, h1, h2, h3, h4⟩ := hv
 refine ⟨vs, h1, h2, h3, fun j x hx => ?_⟩
 obtain ⟨y, hy, rfl⟩ := map_fz hx
 obtain ⟨u, hu, hr⟩ := h4 j _ hx
 exact ⟨u, hu, RF.later hlt hr⟩
theorem call_seq {P : Program} {M : Mode} {o : Oper} {fo : Operand} {args argTypes : _} (hop : o.op = .call { callee := .value fo, args := args, argTypes := argTypes }) {t : List TV} {h : List Ob} {K : OpK}
  (he : evCall P M false fo args.toList t h h.length K) : ∃ v wr rd, K v wr rd ∧ OpSeq P o t h v wr := by
 unfold evCall at he
 split at he
 ·rename_i g caps hfo
  unfold evCallF at he
  split at he
  ·rename_i fn hfn
   split at he
   ·rename_i hc
    obtain ⟨hb, hn⟩ := hc
    split at he
    ·rename_i ags rd hfr
     split at he
     ·
      obtain ⟨l, ⟨F, hk⟩, hl⟩ := exRs_fz he
      rw [if_neg (by simp)] at hk
      refine ⟨_, _, _, hk, fun ext w0 own0 a w Q R => ?_⟩
      obtain ⟨locs, H, RTm⟩ := R.repT
      obtain ⟨vals, hrun, hvs, hvr⟩ := call_vals hop hfo hfn hb hn (fun _ _ => rfl) RTm fn.params.toList
      obtain ⟨H1, lt1, hlen1, _⟩ := zs_ok rd H
      refine wp_enter hrun ((call_core H hfr F hvs hvr).mono fun e w' ⟨v, locs', he, H', hRT⟩ => ⟨v, he, ?_⟩)
      obtain ⟨H3, lt3, hbar⟩ := RepH.join H1 H' (ownR_f l 0 hl)
      have hput : putOs h (zs h rd ++ (ownR 0 l).2.zipIdx.map fun (ob, j) => (h.length + j, ob)) = putOs h (zs h rd) ++ (ownR 0 l).2 := by
       rw [putOs_app, ← hlen1, putOs_append _ _ 0 _ rfl]
      rw [hput]
      refine Rep.mkput R RTm H3 (lt1.trans lt3 (Nat.le_refl _)) (fun o x hx => ?_) o.dst _ v ?_
      ·have hlt : o < h.length := by
        rcases Nat.lt_or_ge o h.length with h' | h'
        ·exact h'
        ·rw [H.len o h'] at hx; cases hx
       rw [hlen1, jnL_lt hlt]; exact hx
      ·obtain ⟨h5, h6⟩ := ownR_sh h.length l 0 hl
       rw [Nat.add_zero] at h5
       rw [h5]
       refine toTV_rep (by simp) (fun i b cs hi => ⟨cs.map (AV.sh h.length), by simp [hi], by simp, fun v hv => ?_⟩) hRT
       obtain ⟨vs, h7, h8, h9, h10⟩ := hv
       refine ⟨vs, h7, by simp [h8], h9, fun j x hx => ?_⟩
       simp only [List.getElem?_map, Option.map_eq_some_iff] at hx
       obtain ⟨y, hy, rfl⟩ := hx
       obtain ⟨u, hu, hr⟩ := h10 j y hy
       refine ⟨u, hu, ?_⟩
       have hr2 : RA w' (Bar ext (jnL locs locs' (putOs h (zs h rd)).length) (putOs h (zs h rd) ++ (ownR 0 l).2)) locs' y u :=
        hr.later ⟨fun _ _ _ => rfl, fun b _ hb => hbar b hb⟩ (fun _ _ h => h)
       cases y with
       | ofl sz q =>
        obtain ⟨lc, a1, c, g1, g2⟩ := hr2
        exact ⟨lc, a1, c, by rw [hlen1, jnL_ge (show ¬ h.length + q < h.length by omega), show h.length + q - h.length = q by omega]; exact g1, g2⟩
       | ptr q e c ty =>
        rcases ownR_row l 0 hl b cs (List.mem_of_getElem? hi) _ (List.mem_of_getElem? hy) with ⟨v, h⟩ | ⟨sz, o, h⟩ <;> cases h
       | _ => exact hr2
     ·split at he
      ·rename_i hbare
       obtain ⟨l, ⟨F, hk⟩, hl⟩ := exRs_bare hbare he
       refine ⟨_, _, _, hk, fun ext w0 own0 a w Q R => ?_⟩
       obtain ⟨locs, H, RTm⟩ := R.repT
       obtain ⟨vals, hrun, hvs, hvr⟩ := call_vals hop hfo hfn hb hn (fun _ _ => rfl) RTm fn.params.toList
       refine wp_enter hrun ((call_core H hfr F hvs hvr).mono fun e w' ⟨v, locs', he, H', hRT⟩ => ⟨v, he, ?_⟩)
       obtain ⟨H3, lt3⟩ := H.grow (w' := w') (fun b hb => H'.since.block b hb (fun h => h)) H'.since.size H'.since.os H'.since.tape H'.since.output
       exact Rep.mkput R RTm H3 lt3 (fun _ _ h => h) o.dst _ v (toTV_rep rfl (fun i b cs hi => ⟨cs, hi, rfl, fun v hv => by
        obtain ⟨fs, rfl, hfs⟩ := hl b cs (List.mem_of_getElem? hi)
        exact RC.bare hfs hv⟩) hRT)
      ·obtain ⟨l, ⟨F, hk⟩, hl⟩ := exRs_fz he
       refine ⟨_, _, _, hk, fun ext w0 own0 a w Q R => ?_⟩
       obtain ⟨locs, H, RTm⟩ := R.repT
       obtain ⟨vals, hrun, hvs, hvr⟩ := call_vals hop hfo hfn hb hn (fun _ _ => rfl) RTm fn.params.toList
       refine wp_enter hrun ((call_core H hfr F hvs hvr).mono fun e w' ⟨v, locs', he, H', hRT⟩ => ⟨v, he, ?_⟩)
       obtain ⟨H1, lt1, hlen1, _⟩ := zs_ok rd H
       obtain ⟨H3, lt3⟩ := H1.grow (w' := w') (fun b hb => H'.since.block b hb (fun h => h)) H'.since.size H'.since.os H'.since.tape H'.since.output
       exact Rep.mkput R RTm H3 (lt1.trans lt3 (Nat.le_refl _)) (fun _ _ h => h) o.dst _ v (kept_rep hl hRT)
    ·exact he.elim
   ·exact he.elim
  ·exact he.elim
 ·exact he.elim
theorem call_ok {P : Program} {M : Mode} {o : Oper} {fo : Operand} {args argTypes : _} (hop : o.op = .call { callee := .value fo, args := args, argTypes := argTypes }) {t : List TV} {h : List Ob} {id : Nat} {K : OpK}
  (he : evCall P M true fo args.toList t h id K) : ∃ v wr rd, K v wr rd ∧ OpOK P o t h id v wr rd := by
 unfold evCall at he
 split at he
 ·rename_i g caps hfo
  unfold evCallF at he
  split at he
  ·rename_i fn hfn
   split at he
   ·rename_i hc
    obtain ⟨hb, hn⟩ := hc
    split at he
    ·rename_i ags rd hfr
     split at he
     ·
      obtain ⟨l, ⟨F, hk⟩, hl⟩ := exRs_fz he
      split at hk
      ·exact hk.elim
      rename_i hle
      have hle : (ownR 0 l).2.length ≤ 1 := by
       rcases Nat.lt_or_ge 1 (ownR 0 l).2.length with h' | h'
       ·exact absurd ⟨rfl, h'⟩ hle
       ·exact h'
      refine ⟨_, _, _, hk, fun ext w0 own0 t' h' a w Q hlen hag hrd hf R => ?_⟩
      obtain ⟨locs, H, RTm⟩ := R.repT
      obtain ⟨vals, hrun, hvs, hvr⟩ := call_vals hop hfo hfn hb hn hag RTm fn.params.toList
      obtain ⟨H1, lt1, hlen1, hz1⟩ := zs_ok rd H
      have hfr' := frzTOs_congr hfr hrd
      rw [← zs_congr rd hrd]
      refine wp_enter hrun ((call_core H hfr' F hvs hvr).mono fun e w' ⟨v, locs', he, H', hRT⟩ => ⟨v, he, ?_⟩)
      have hrf := ownR_f l 0 hl
      have hrow := ownR_row l 0 hl
      obtain ⟨h5, h6⟩ := ownR_sh id l 0 hl
      rw [Nat.add_zero] at h5
      rw [h5]
      generalize (ownR 0 l).1 = cells at hRT hrow
      generalize (ownR 0 l).2 = hr at H' hRT hrf hle
      have hcase : hr = [] ∨ ∃ et sz es, hr = [.f et sz es] := by
       match hr, hle, hrf with
       | [], _, _ => exact .inl rfl
       | [ob], _, hrf => obtain ⟨et, sz, es, rfl⟩ := hrf ob (by simp); exact .inr ⟨et, sz, es, rfl⟩
      rcases hcase with rfl | ⟨et, sz, es, rfl⟩
      ·obtain ⟨H3, lt3⟩ := H1.grow (w' := w') (fun b hb => H'.since.block b hb (fun h => h)) H'.since.size H'.since.os H'.since.tape H'.since.output
       rw [show putOs h' (zs h' rd ++ ([] : List Ob).zipIdx.map fun (ob, j) => (id + j, ob)) = putOs h' (zs h' rd) from by simp]
       refine Rep.mkput R RTm H3 (lt1.trans lt3 (Nat.le_refl _)) (fun _ _ h => h) o.dst _ v ?_
       refine toTV_rep (by simp) (fun i b cs hi => ⟨cs.map (AV.sh id), by simp [hi], by simp, fun v hv => ?_⟩) hRT
       obtain ⟨vs, h7, h8, h9, h10⟩ := hv
       refine ⟨vs, h7, by simp [h8], h9, fun j x hx => ?_⟩
       simp only [List.getElem?_map, Option.map_eq_some_iff] at hx
       obtain ⟨y, hy, rfl⟩ := hx
       obtain ⟨u, hu, hr⟩ := h10 j y hy
       refine ⟨u, hu, ?_⟩
       rcases hrow b cs (List.mem_of_getElem? hi) y (List.mem_of_getElem? hy) with ⟨z, rfl⟩ | ⟨sz, q, rfl⟩
       ·exact RF.later ⟨fun _ _ _ => rfl, fun b _ hb => .inl hb⟩ hr
       ·obtain ⟨lc, a1, c, g1, _⟩ := hr
        rw [H'.len q (by simp)] at g1
        cases g1
      ·have hf1 : freshO (putOs h' (zs h' rd)) id := by
        rcases hf with rfl | hf
        ·exact .inl hlen1.symm
        ·right
         have : ∀ (rd : List Nat) {h : List Ob}, h[id]? = some .rs → (putOs h (zs h rd))[id]? = some .rs := by
          intro rd
          induction rd with
          | nil => intro h hh; exact hh
          | cons o r ih =>
           intro h hh
           unfold zs
           split
           ·rename_i z hg
            have ho : h[o]? = some (getO h o) := getO_some rfl (frzOb_ne hg).1
            simp only [putOs, putO_lt ho]
            refine ih ?_
            rw [set_get ho, if_neg (by rintro rfl; rw [ho] at hh; exact (frzOb_ne hg).2 (Option.some.inj hh))]
            exact hh
           ·exact ih hh
         exact this rd hf
       obtain ⟨lc, hlc, hob⟩ := H'.get (o := 0) (ob := .f et sz es) rfl (by simp) (by simp)
       have hblk : ∀ d, lc.a = some d → w.heap.size ≤ d.block := by
        intro d hd
        rcases Nat.lt_or_ge d.block w.heap.size with h' | h'
        ·exact (H'.ownOld d.block h' ⟨0, lc, d, .f et sz es, rfl, rfl, hlc, .inl hd, rfl⟩).elim
        ·exact h'
       have hbar : ∀ b, Bar ext (addL locs id lc) (putO (putOs h' (zs h' rd)) id (.f et sz es)) b → Bar (Bar ext locs (putOs h' (zs h' rd))) locs' [.f et sz es] b := by
        rintro b (hb | ⟨q, l1, d1, ob1, g1, g2, g3, g4, rfl⟩)
        ·exact .inl (.inl hb)
        ·obtain ⟨hn1, hle1⟩ := fresh_none H1 hf1
         rw [putO_get hle1] at g1
         by_cases e : q = id
         ·subst e
          rw [if_pos rfl] at g1
          rw [addL_at] at g3
          cases g1; cases g3
          refine .inr ⟨0, lc, d1, .f et sz es, rfl, rfl, hlc, g4.elim .inl (fun g4 => ?_), rfl⟩
          unfold addL at g4
          rw [addS_own] at g4
          exact g4.elim
         ·rw [if_neg e] at g1
          rw [addL_ne e] at g3
          exact .inl (.inr ⟨q, l1, d1, ob1, g1, g2, g3, by simpa [Locs.hs, addL, addS_own_ne e] using g4, rfl⟩)
       obtain ⟨H3, lt3⟩ := H1.new (w' := w') hf1 (fun b hb => H'.since.block b hb (fun h => h)) H'.since.size H'.since.os H'.since.tape H'.since.output lc (.f et sz es) (fun _ d hd => hblk d hd)
        (fun _ => RepOb.later (P := P) (w' := w') (locs' := locs') (S := fun _ => False) (ob := .f et sz es) ⟨fun _ _ _ => rfl, fun b _ hb => hbar b hb⟩ (fun _ _ h => h) (fun _ _ _ => rfl) (fun _ _ _ => rfl) hob)
       rw [show putOs h' (zs h' rd ++ ([.f et sz es] : List Ob).zipIdx.map fun (ob, j) => (id + j, ob)) = putO (putOs h' (zs h' rd)) id (.f et sz es) from by simp [putOs_app, putOs]]
       have hn1 := (fresh_none H1 hf1).1
       refine Rep.mkput R RTm H3 (lt1.trans lt3 (Nat.le_refl _)) (addL_mono hn1) o.dst _ v ?_
       refine toTV_rep (by simp) (fun i b cs hi => ⟨cs.map (AV.sh id), by simp [hi], by simp, fun v hv => ?_⟩) hRT
       obtain ⟨vs, h7, h8, h9, h10⟩ := hv
       refine ⟨vs, h7, by simp [h8], h9, fun j x hx => ?_⟩
       simp only [List.getElem?_map, Option.map_eq_some_iff] at hx
       obtain ⟨y, hy, rfl⟩ := hx
       obtain ⟨u, hu, hr⟩ := h10 j y hy
       refine ⟨u, hu, ?_⟩
       rcases hrow b cs (List.mem_of_getElem? hi) y (List.mem_of_getElem? hy) with ⟨z, rfl⟩ | ⟨sz', q, rfl⟩
       ·exact RF.later ⟨fun _ _ _ => rfl, fun b _ hb => hbar b hb⟩ hr
       ·obtain ⟨l2, a1, c, g1, g2⟩ := hr
        have hq : q = 0 := by
         rcases Nat.eq_zero_or_pos q with h' | h'
         ·exact h'
         ·rw [H'.len q (by simp; omega)] at g1; cases g1
        subst hq
        rw [hlc] at g1
        cases g1
        exact ⟨lc, a1, c, by rw [show id + 0 = id from rfl, addL_at], g2⟩
     ·split at he
      ·rename_i hbare
       obtain ⟨l, ⟨F, hk⟩, hl⟩ := exRs_bare hbare he
       refine ⟨_, _, _, hk, fun ext w0 own0 t' h' a w Q hlen hag hrd hf R => ?_⟩
       obtain ⟨locs, H, RTm⟩ := R.repT
       obtain ⟨vals, hrun, hvs, hvr⟩ := call_vals hop hfo hfn hb hn hag RTm fn.params.toList
       refine wp_enter hrun ((call_core H (frzTOs_congr hfr hrd) F hvs hvr).mono fun e w' ⟨v, locs', he, H', hRT⟩ => ⟨v, he, ?_⟩)
       obtain ⟨H3, lt3⟩ := H.grow (w' := w') (fun b hb => H'.since.block b hb (fun h => h)) H'.since.size H'.since.os H'.since.tape H'.since.output
       exact Rep.mkput R RTm H3 lt3 (fun _ _ h => h) o.dst _ v (toTV_rep rfl (fun i b cs hi => ⟨cs, hi, rfl, fun v hv => by
        obtain ⟨fs, rfl, hfs⟩ := hl b cs (List.mem_of_getElem? hi)
        exact RC.bare hfs hv⟩) hRT)
      ·obtain ⟨l, ⟨F, hk⟩, hl⟩ := exRs_fz he
       refine ⟨_, _, _, hk, fun ext w0 own0 t' h' a w Q hlen hag hrd hf R => ?_⟩
       obtain ⟨locs, H, RTm⟩ := R.repT
       obtain ⟨vals, hrun, hvs, hvr⟩ := call_vals hop hfo hfn hb hn hag RTm fn.params.toList
       rw [← zs_congr rd hrd]
       refine wp_enter hrun ((call_core H (frzTOs_congr hfr hrd) F hvs hvr).mono fun e w' ⟨v, locs', he, H', hRT⟩ => ⟨v, he, ?_⟩)
       obtain ⟨H1, lt1, hlen1, _⟩ := zs_ok rd H
       obtain ⟨H3, lt3⟩ := H1.grow (w' := w') (fun b hb => H'.since.block b hb (fun h => h)) H'.since.size H'.since.os H'.since.tape H'.since.output
       exact Rep.mkput R RTm H3 (lt1.trans lt3 (Nat.le_refl _)) (fun _ _ h => h) o.dst _ v (kept_rep hl hRT)
    ·exact he.elim
   ·exact he.elim
  ·exact he.elim
 ·exact he.elim
end
section
def idxO (ids : List Nat) (o : Nat) : Option Nat := go ids 0
where
 go : List Nat → Nat → Option Nat
 | [], _ => none
 | x :: r, k => if x = o then some k else go r (k + 1)
theorem idxO_go (o : Nat) : ∀ (ids : List Nat) (k n : Nat), idxO.go o ids k = some n → k ≤ n ∧ ids[n - k]? = some o
 | [], k, n, h => by cases h
 | x :: r, k, n, h => by
  unfold idxO.go at h
  split at h
  ·cases h; subst_vars; simp
  ·obtain ⟨h1, h2⟩ := idxO_go o r (k + 1) n h
   refine ⟨by omega, ?_⟩
   rw [show n - k = (n - (k + 1)) + 1 by omega]
   exact h2
theorem idxO_some {ids : List Nat} {o n : Nat} (h : idxO ids o = some n) : ids[n]? = some o := by
 have := (idxO_go o ids 0 n h).2
 simpa using this
def reA (ids : List Nat) : AV → AV
 | .ofl sz o => match idxO ids o with
  | some k => .ofl sz k
  | none => .und
 | .ptr o e c ty => match idxO ids o with
  | some k => .ptr k e c ty
  | none => .und
 | .kb b => .fz (.bool b)
 | a => a
def reT (ids : List Nat) : TV → TV
 | .one a => .one (reA ids a)
 | .agg cs => .agg (cs.map (reA ids))
 | .tup ts => .tup (ts.map fun p => (p.1, p.2.map (reA ids)))
 | .und => .und
def reO (ids : List Nat) : Ob → Ob
 | .g gt cs => .g gt (cs.map (reA ids))
 | .r s et sz es n none => .r s et sz es n none
 | .r s et sz es n (some (i, j, o)) => match idxO ids o with
  | some k => .r s et sz es n (some (i, j, k))
  | none => .no
 | .rs => .no
 | ob => ob
def reLocs (locs : Locs) (ids : List Nat) : Locs := ⟨fun k =>
 match ids[k]? with
 | some o => locs o
 | none => none, fun k =>
 match ids[k]? with
 | some o => locs.own o
 | none => fun _ => False⟩
theorem re_own {locs : Locs} {ids : List Nat} {k o : Nat} (h : ids[k]? = some o) : (reLocs locs ids).own k = locs.own o := by simp [reLocs, h]
theorem re_hs {locs : Locs} {ids : List Nat} {k o : Nat} (h : ids[k]? = some o) {l : Loc} {d : Addr} : (reLocs locs ids).hs k l d ↔ locs.hs o l d := by unfold Locs.hs; rw [re_own h]
theorem re_lt {locs : Locs} {ids : List Nat} {n : Nat} (hl : ∀ o b, locs.own o b → b < n) (k b : Nat) (h : (reLocs locs ids).own k b) : b < n := by
 cases hi : ids[k]? with
 | some o => rw [re_own hi] at h; exact hl _ _ h
 | none => simp [reLocs, hi] at h
section
variable {P : Program} {ext : Nat → Prop} {w0 : World} {own0 : Own0} {locs : Locs} {h : List Ob} {w : World}
theorem reA_ok {B : Nat → Prop} {ids : List Nat} {a : AV} {v : Value} (hr : RA w B locs a v) : RA w B (reLocs locs ids) (reA ids a) v := by
 cases a with
 | ofl sz o =>
  obtain ⟨l, a, c, h1, h2⟩ := hr
  simp only [reA]
  cases hi : idxO ids o with
  | none => trivial
  | some k => exact ⟨l, a, c, by simp only [reLocs, idxO_some hi]; exact h1, h2⟩
 | ptr o e c ty =>
  obtain ⟨l, d, h1, h2⟩ := hr
  simp only [reA]
  cases hi : idxO ids o with
  | none => trivial
  | some k => exact ⟨l, d, by simp only [reLocs, idxO_some hi]; exact h1, h2⟩
 | kb b => cases hr; exact RF.bool b
 | _ => exact hr
theorem reC_ok {B : Nat → Prop} {ids : List Nat} {b : Bool} {cs : List AV} {v : Value} (hr : RC w B locs b cs v) : RC w B (reLocs locs ids) b (cs.map (reA ids)) v := by
 obtain ⟨vs, h1, h2, h3, h4⟩ := hr
 refine ⟨vs, h1, by simp [h2], h3, fun j x hx => ?_⟩
 simp only [List.getElem?_map, Option.map_eq_some_iff] at hx
 obtain ⟨y, hy, rfl⟩ := hx
 obtain ⟨u, hu, hra⟩ := h4 j y hy
 exact ⟨u, hu, reA_ok hra⟩
theorem reT_ok {B : Nat → Prop} {ids : List Nat} {t : TV} {v : Value} (hr : RT w B locs t v) : RT w B (reLocs locs ids) (reT ids t) v := by
 cases t with
 | one a => exact reA_ok hr
 | agg cs => exact reC_ok hr
 | tup ts =>
  obtain ⟨vs, h1, h2, h3⟩ := hr
  refine ⟨vs, h1, by simp [h2], fun i b cs hi => ?_⟩
  simp only [List.getElem?_map, Option.map_eq_some_iff] at hi
  obtain ⟨⟨b', cs'⟩, hq, he⟩ := hi
  cases he
  obtain ⟨u, hu, hra⟩ := h3 i _ _ hq
  exact ⟨u, hu, reC_ok hra⟩
 | und => trivial
theorem reH_gen (H : RepH P ext w0 own0 locs h w) {ids : List Nat} (hn : ids.Nodup) {ext' : Nat → Prop} {w0' : World} {own0' : Own0} (hx1 : ∀ b, ext' b → Bar ext locs h b)
  (hx2 : ∀ b, ext' b → ¬ ownB (reLocs locs ids) (ids.map fun o => reO ids (getO h o)) b) (hx3 : ∀ b, b < w0'.heap.size → ownB (reLocs locs ids) (ids.map fun o => reO ids (getO h o)) b → own0'.b b) (hs : Since w0' own0'.b w) (hb : Base P ext' w0' own0'.b)
  (hp : ∀ (o : Nat) (x : Loc), own0'.pin o = some x → reLocs locs ids o = some x) : RepH P ext' w0' own0' (reLocs locs ids) (ids.map fun o => reO ids (getO h o)) w ∧
  Later w (Bar ext locs h) w (Bar ext' (reLocs locs ids) (ids.map fun o => reO ids (getO h o))) ∧ (∀ b, ownB (reLocs locs ids) (ids.map fun o => reO ids (getO h o)) b → ownB locs h b) ∧
  (∀ (k : Nat) (ob : Ob), (ids.map fun o => reO ids (getO h o))[k]? = some ob → ob.live = true → ∃ o ob0, ids[k]? = some o ∧ h[o]? = some ob0 ∧ ob0.live = true ∧ reLocs locs ids k = locs o) := by
 have hget : ∀ (k : Nat) (ob : Ob), (ids.map fun o => reO ids (getO h o))[k]? = some ob → ∃ o, ids[k]? = some o ∧ ob = reO ids (getO h o) := by
  intro k ob hk
  simp only [List.getElem?_map, Option.map_eq_some_iff] at hk
  obtain ⟨o, h1, h2⟩ := hk
  exact ⟨o, h1, h2.symm⟩
 have hlive : ∀ (k : Nat) (ob : Ob), (ids.map fun o => reO ids (getO h o))[k]? = some ob → ob.live = true → ∃ o ob0, ids[k]? = some o ∧ h[o]? = some ob0 ∧ ob0.live = true ∧ reLocs locs ids k = locs o := by
  intro k ob hk hlv
  obtain ⟨o, h1, h2⟩ := hget k ob hk
  have hl : (getO h o).live = true := by
   rw [h2] at hlv
   cases hq : getO h o with
   | r s et sz es n fo => rfl
   | no => rw [hq] at hlv; cases hlv
   | rs => rw [hq] at hlv; cases hlv
   | z sz es => rw [hq] at hlv; cases hlv
   | f et sz es => rfl
   | g gt cs => rfl
  exact ⟨o, getO h o, h1, getO_some rfl (by rintro e; rw [e] at hl; cases hl), hl, by simp [reLocs, h1]⟩
 have hown : ∀ b, ownB (reLocs locs ids) (ids.map fun o => reO ids (getO h o)) b → ownB locs h b := by
  rintro b ⟨k, l, d, ob, h1, h2, h3, h4, rfl⟩
  obtain ⟨o, ob0, h5, h6, h7, h8⟩ := hlive k ob h1 h2
  exact ⟨o, l, d, ob0, h6, h7, by rw [← h8]; exact h3, (re_hs h5).1 h4, rfl⟩
 have lt : Later w (Bar ext locs h) w (Bar ext' (reLocs locs ids) (ids.map fun o => reO ids (getO h o))) := ⟨fun _ _ _ => rfl, fun b _ hb => hb.elim (hx1 b) (fun hb => .inr (hown b hb))⟩
 refine ⟨⟨fun o ho => ?_, fun k ob hk => ?_, fun o o' l l' ob ob' d d' hne ho ho' hlv hlv' hl hl' hd hd' => ?_, hx2, fun b hb => (hx1 b hb).elim (H.extlt b) (fun hb => H.own_lt hb), hx3, hs, hb, hp, re_lt H.ownlt⟩, lt, hown, hlive⟩
 ·simp only [List.length_map] at ho
  simp only [reLocs, List.getElem?_eq_none ho]
 ·obtain ⟨o, h1, h2⟩ := hget k ob hk
  by_cases hno : getO h o = .no
  ·rw [hno] at h2; exact .inl h2
  ·have ho := getO_some (h := h) (o := o) rfl hno
   rcases H.ob o _ ho with h3 | ⟨h3, _⟩ | ⟨l, h3, h4⟩
   ·exact absurd h3 hno
   ·rw [h3] at h2; exact .inl h2
   ·refine .inr (.inr ⟨l, by simp only [reLocs, h1]; exact h3, ?_⟩)
    have h5 := h4.later lt (locs' := locs) (fun _ _ h => h) (fun _ _ _ => rfl) (fun _ _ _ => rfl)
    rw [h2, re_own h1]
    cases hq : getO h o with
    | no => trivial
    | rs => rw [hq] at h5; exact h5.elim
    | f et sz es => rw [hq] at h5; exact h5
    | z sz es => rw [hq] at h5; exact h5
    | r s et sz es n fo =>
     rw [hq] at h5
     obtain ⟨g1, g2, g3⟩ := h5
     cases fo with
     | none =>
      refine ⟨g1, g2, g3.imp_right ?_⟩
      rintro ⟨b, off, c, ty, SS, a1, a2, a3, a4, a5, a6, a7⟩
      refine ⟨b, off, c, ty, SS, a1, a2, a3, a4, a5, a6, fun i e he => ⟨(a7 i e he).1, fun j x hx => ?_⟩⟩
      obtain ⟨v, hv, hr⟩ := (a7 i e he).2 j x hx
      refine ⟨v, hv, ?_⟩
      unfold CR at hr ⊢
      split
      ·rename_i hk; rw [hk] at hr; exact hr
      ·rename_i s' hk
       rw [hk] at hr
       rcases hr with hr | ⟨hr0, ⟨o, sz, hr, _⟩ | hr⟩
       ·exact .inl hr
       ·cases hr
       ·exact .inr ⟨hr0, .inr hr⟩
     | some fo =>
      obtain ⟨fi, fj, q⟩ := fo
      simp only [reO]
      cases hi : idxO ids q with
      | none => trivial
      | some k' =>
       refine ⟨g1, g2, g3.imp_right ?_⟩
       rintro ⟨b, off, c, ty, SS, a1, a2, a3, a4, a5, a6, a7⟩
       refine ⟨b, off, c, ty, SS, a1, a2, a3, a4, a5, a6, fun i e he => ⟨(a7 i e he).1, fun j x hx => ?_⟩⟩
       obtain ⟨v, hv, hr⟩ := (a7 i e he).2 j x hx
       refine ⟨v, hv, ?_⟩
       unfold CR at hr ⊢
       split
       ·rename_i hk; rw [hk] at hr; exact hr
       ·rename_i s' hk
        rw [hk] at hr
        rcases hr with ⟨hr, hr1, hr2⟩ | ⟨hr0, ⟨o, sz, hr, hra⟩ | ⟨hr1, hr2⟩⟩
        ·refine .inl ⟨hr, fun o e => hr1 q ?_, hr2⟩
         cases e; rfl
        ·cases hr
         have := reA_ok (ids := ids) hra
         simp only [reA, hi] at this
         exact .inr ⟨hr0, .inl ⟨k', sz, rfl, this⟩⟩
        ·refine .inr ⟨hr0, .inr ⟨fun o e => hr1 q ?_, hr2⟩⟩
         cases e; rfl
    | g gt cs =>
     rw [hq] at h5
     obtain ⟨g1, b, c, g2, g3, g4, g5⟩ := h5
     refine ⟨by simp [g1], b, c, g2, g3, by simp [g4], fun j x hx => ?_⟩
     simp only [List.getElem?_map, Option.map_eq_some_iff] at hx
     obtain ⟨y, hy, rfl⟩ := hx
     obtain ⟨u, hu, hra⟩ := g5 j y hy
     exact ⟨u, hu, reA_ok hra⟩
 ·obtain ⟨q, ob0, h1, h2, h3, h4⟩ := hlive o ob ho hlv
  obtain ⟨q', ob0', h1', h2', h3', h4'⟩ := hlive o' ob' ho' hlv'
  refine H.apart q q' l l' ob0 ob0' d d' ?_ h2 h2' h3 h3' (by rw [← h4]; exact hl) (by rw [← h4']; exact hl') ((re_hs h1).1 hd) ((re_hs h1').1 hd')
  rintro rfl
  have hlt : o < ids.length := by
   rcases Nat.lt_or_ge o ids.length with h' | h'
   ·exact h'
   ·rw [List.getElem?_eq_none h'] at h1; cases h1
  have hlt' : o' < ids.length := by
   rcases Nat.lt_or_ge o' ids.length with h' | h'
   ·exact h'
   ·rw [List.getElem?_eq_none h'] at h1'; cases h1'
  rw [List.getElem?_eq_getElem hlt] at h1
  rw [List.getElem?_eq_getElem hlt'] at h1'
  have e1 : ids[o] = q := Option.some.inj h1
  have e2 : ids[o'] = q := Option.some.inj h1'
  exact hne ((List.getElem_inj hn).1 (e1.trans e2.symm))
theorem reH_ok (H : RepH P ext w0 own0 locs h w) {ids : List Nat} (hn : ids.Nodup) (hp : ∀ (o : Nat) (x : Loc), own0.pin o = some x → ids[o]? = some o) : RepH P ext w0 own0 (reLocs locs ids) (ids.map fun o => reO ids (getO h o)) w ∧
  Later w (Bar ext locs h) w (Bar ext (reLocs locs ids) (ids.map fun o => reO ids (getO h o))) := by
 have hown : ∀ b, ownB (reLocs locs ids) (ids.map fun o => reO ids (getO h o)) b → ownB locs h b := by
  rintro b ⟨k, l, d, ob, h1, h2, h3, h4, rfl⟩
  simp only [List.getElem?_map, Option.map_eq_some_iff] at h1
  obtain ⟨o, g1, g2⟩ := h1
  have hl : (getO h o).live = true := by
   rw [← g2] at h2
   cases hq : getO h o with
   | r s et sz es n fo => rfl
   | no => rw [hq] at h2; cases h2
   | rs => rw [hq] at h2; cases h2
   | z sz es => rw [hq] at h2; cases h2
   | f et sz es => rfl
   | g gt cs => rfl
  exact ⟨o, l, d, getO h o, getO_some rfl (by rintro e; rw [e] at hl; cases hl), hl, by simpa [reLocs, g1] using h3, (re_hs g1).1 h4, rfl⟩
 obtain ⟨h1, h2, _⟩ := reH_gen H hn (ext' := ext) (w0' := w0) (own0' := own0) (fun b hb => .inl hb) (fun b hb ho => H.extOwn b hb (hown b ho)) (fun b hb ho => H.ownOld b hb (hown b ho)) H.since H.base
  (fun o x hx => by simp only [reLocs, hp o x hx]; exact H.pins o x hx)
 exact ⟨h1, h2⟩
end
def idsA : List AV → List Nat → List Nat
 | [], acc => acc
 | .ofl _ o :: r, acc => idsA r (if acc.contains o then acc else acc ++ [o])
 | .ptr o _ _ _ :: r, acc => idsA r (if acc.contains o then acc else acc ++ [o])
 | _ :: r, acc => idsA r acc
def idsP : List (Bool × List AV) → List Nat → List Nat
 | [], acc => acc
 | (_, cs) :: r, acc => idsP r (idsA cs acc)
def idsT : List TV → List Nat → List Nat
 | [], acc => acc
 | .one a :: r, acc => idsT r (idsA [a] acc)
 | .agg cs :: r, acc => idsT r (idsA cs acc)
 | .tup ts :: r, acc => idsT r (idsP ts acc)
 | .und :: r, acc => idsT r acc
def idsH (h : List Ob) : Nat → Nat → List Nat → List Nat
 | 0, _, acc => acc
 | n + 1, k, acc =>
  match acc[k]? with
  | some o => idsH h n (k + 1) (match getO h o with | .g gt cs => idsA cs acc | _ => acc)
  | none => acc
end
section
def bkN (ids : List Nat) (id k : Nat) : Nat :=
 match ids[k]? with
 | some o => o
 | none => id + (k - ids.length)
def bkA (ids : List Nat) (id : Nat) : AV → AV
 | .ofl sz k => .ofl sz (bkN ids id k)
 | .ptr k e c ty => .ptr (bkN ids id k) e c ty
 | a => a
def bkO (ids : List Nat) (id : Nat) : Ob → Ob
 | .g gt cs => .g gt (cs.map (bkA ids id))
 | .r s et sz es n fo => .r s et sz es n (fo.map fun p => (p.1, p.2.1, bkN ids id p.2.2))
 | ob => ob
theorem bkO_live (ids : List Nat) (id : Nat) (ob : Ob) : (bkO ids id ob).live = ob.live := by cases ob <;> rfl
theorem bkA_ok {w : World} {B : Nat → Prop} {locs locs3 : Nat → Option Loc} {ids : List Nat} {id : Nat} (h3 : ∀ (k : Nat) (l : Loc), locs k = some l → locs3 (bkN ids id k) = some l) {a : AV} {v : Value} (h : RA w B locs a v) : RA w B locs3 (bkA ids id a) v := by
 cases a with
 | ofl sz k => obtain ⟨l, a, c, h1, h2⟩ := h; exact ⟨l, a, c, h3 _ _ h1, h2⟩
 | ptr k e c ty => obtain ⟨l, d, h1, h2⟩ := h; exact ⟨l, d, h3 _ _ h1, h2⟩
 | _ => exact h
section
variable {P : Program} {ext : Nat → Prop} {w0 : World} {own0 : Own0} {locs : Locs} {h : List Ob} {w : World}
def locs3 (locs locs' : Locs) (ids : List Nat) (id m : Nat) : Locs := ⟨fun o => if id ≤ o ∧ o < id + m then locs' (ids.length + (o - id)) else locs o,
 fun o b => (∃ k, bkN ids id k = o ∧ k < ids.length + m ∧ locs'.own k b) ∨ (o ∉ ids ∧ ¬ (id ≤ o ∧ o < id + m) ∧ locs.own o b)⟩
theorem locs3_in {locs locs' : Locs} {ids : List Nat} {id m o : Nat} (h : id ≤ o ∧ o < id + m) : locs3 locs locs' ids id m o = locs' (ids.length + (o - id)) := if_pos h
theorem locs3_out {locs locs' : Locs} {ids : List Nat} {id m o : Nat} (h : ¬ (id ≤ o ∧ o < id + m)) : locs3 locs locs' ids id m o = locs o := if_neg h
theorem share_back (H : RepH P ext w0 own0 locs h w) {ids : List Nat} (hn : ids.Nodup) (hids : ∀ o ∈ ids, ∃ ob, h[o]? = some ob ∧ ob ≠ .no ∧ ob ≠ .rs) {id m : Nat} (hfr : ∀ j, j < m → locs (id + j) = none)
  {ext1 : Nat → Prop} (hext : ∀ b, ext1 b ↔ (Bar ext locs h b ∧ ¬ ownB (reLocs locs ids) (ids.map fun o => reO ids (getO h o)) b))
  {locs' : Locs} {obs : List Ob} {w' : World} (H' : RepH P ext1 w ⟨ownB (reLocs locs ids) (ids.map fun o => reO ids (getO h o)), reLocs locs ids, []⟩ locs' obs w')
  (hown1 : ∀ b, ownB (reLocs locs ids) (ids.map fun o => reO ids (getO h o)) b → ownB locs h b)
  (hlive1 : ∀ (k : Nat) (ob : Ob), (ids.map fun o => reO ids (getO h o))[k]? = some ob → ob.live = true → ∃ o ob0, ids[k]? = some o ∧ h[o]? = some ob0 ∧ ob0.live = true ∧ reLocs locs ids k = locs o)
  (hm : obs.length = ids.length + m) (hrs : ∀ ob ∈ obs, ob ≠ .rs) {h3 : List Ob} (h3len : h.length ≤ h3.length) (h3len2 : ∀ j, j < m → id + j < h3.length)
  (h3get : ∀ (o : Nat) (ob : Ob), h3[o]? = some ob → (∃ k ob0, bkN ids id k = o ∧ obs[k]? = some ob0 ∧ ob = bkO ids id ob0) ∨ (o ∉ ids ∧ ¬ (id ≤ o ∧ o < id + m) ∧ h[o]? = some ob)) :
  RepH P ext w0 own0 (locs3 locs locs' ids id m) h3 w' ∧ Later w (Bar ext locs h) w' (Bar ext (locs3 locs locs' ids id m) h3) ∧ (∀ (o : Nat) (x : Loc), locs o = some x → locs3 locs locs' ids id m o = some x) ∧
   (∀ b, Bar ext (locs3 locs locs' ids id m) h3 b → Bar ext1 locs' obs b) ∧ (∀ (k : Nat) (l : Loc), locs' k = some l → locs3 locs locs' ids id m (bkN ids id k) = some l) := by
 have hloc : ∀ o ∈ ids, ∃ l, locs o = some l := fun o ho => by
  obtain ⟨ob, h1, h2, h3⟩ := hids o ho
  obtain ⟨l, hl, _⟩ := H.get h1 h2 h3
  exact ⟨l, hl⟩
 have hnin : ∀ o ∈ ids, ¬ (id ≤ o ∧ o < id + m) := fun o ho ⟨h1, h2⟩ => by
  obtain ⟨l, hl⟩ := hloc o ho
  have := hfr (o - id) (by omega)
  rw [show id + (o - id) = o by omega, hl] at this
  cases this
 have hl3 : ∀ (k : Nat) (l : Loc), locs' k = some l → locs3 locs locs' ids id m (bkN ids id k) = some l := by
  intro k l hk
  unfold bkN
  cases hi : ids[k]? with
  | some o =>
   have ho : o ∈ ids := List.mem_of_getElem? hi
   obtain ⟨l0, hl0⟩ := hloc o ho
   have h1 := H'.pins k l0 (by show reLocs locs ids k = some l0; simp only [reLocs, hi]; exact hl0)
   rw [hk] at h1; cases h1
   simp only
   rw [locs3_out (hnin o ho)]
   exact hl0
  | none =>
   have h1 : ids.length ≤ k := by simpa using hi
   have h2 : k < obs.length := by
    rcases Nat.lt_or_ge k obs.length with h' | h'
    ·exact h'
    ·rw [H'.len k h'] at hk; cases hk
   simp only
   rw [locs3_in (by omega), show ids.length + (id + (k - ids.length) - id) = k by omega]
   exact hk
 have hlo : ∀ (o : Nat) (x : Loc), locs o = some x → locs3 locs locs' ids id m o = some x := by
  intro o x hx
  rw [locs3_out]
  ·exact hx
  ·rintro ⟨h1, h2⟩
   have := hfr (o - id) (by omega)
   rw [show id + (o - id) = o by omega, hx] at this
   cases this
 have hinj : ∀ k k', k < ids.length + m → k' < ids.length + m → bkN ids id k = bkN ids id k' → k = k' := by
  intro k k' hk hk' e
  unfold bkN at e
  cases hi : ids[k]? with
  | some o =>
   cases hi' : ids[k']? with
   | some o' =>
    rw [hi, hi'] at e
    simp only at e
    subst e
    have h1 := (List.getElem?_eq_some_iff.1 hi)
    have h2 := (List.getElem?_eq_some_iff.1 hi')
    obtain ⟨h1, h1'⟩ := h1
    obtain ⟨h2, h2'⟩ := h2
    exact (List.getElem_inj hn).1 (h1'.trans h2'.symm)
   | none =>
    rw [hi, hi'] at e
    simp only at e
    have : ids.length ≤ k' := by simpa using hi'
    exact absurd ⟨by omega, by omega⟩ (hnin o (List.mem_of_getElem? hi))
  | none =>
   have h1 : ids.length ≤ k := by simpa using hi
   cases hi' : ids[k']? with
   | some o' =>
    rw [hi, hi'] at e
    simp only at e
    exact absurd ⟨by omega, by omega⟩ (hnin o' (List.mem_of_getElem? hi'))
   | none =>
    rw [hi, hi'] at e
    simp only at e
    have : ids.length ≤ k' := by simpa using hi'
    omega
 have hkin : ∀ k, k < ids.length + m → bkN ids id k ∈ ids ∨ (id ≤ bkN ids id k ∧ bkN ids id k < id + m) := by
  intro k hk
  unfold bkN
  cases hi : ids[k]? with
  | some o => exact .inl (List.mem_of_getElem? hi)
  | none =>
   have h1 : ids.length ≤ k := by simpa using hi
   exact .inr ⟨by simp only; omega, by simp only; omega⟩
 have hown3 : ∀ k, k < ids.length + m → (locs3 locs locs' ids id m).own (bkN ids id k) = locs'.own k := by
  intro k hk
  funext b
  refine propext ⟨?_, fun h => .inl ⟨k, rfl, hk, h⟩⟩
  rintro (⟨k', e, hk', h⟩ | ⟨n1, n2, _⟩)
  ·rw [hinj k' k hk' hk e] at h; exact h
  ·exact ((hkin k hk).elim n1 n2).elim
 have hownn : ∀ o, o ∉ ids → ¬ (id ≤ o ∧ o < id + m) → (locs3 locs locs' ids id m).own o = locs.own o := by
  intro o n1 n2
  funext b
  refine propext ⟨?_, fun h => .inr ⟨n1, n2, h⟩⟩
  rintro (⟨k', e, hk', h⟩ | ⟨_, _, h⟩)
  ·rw [← e] at n1 n2
   exact ((hkin k' hk').elim n1 n2).elim
  ·exact h
 have hltk : ∀ (k : Nat) (ob : Ob), obs[k]? = some ob → k < ids.length + m := by
  intro k ob hk
  rcases Nat.lt_or_ge k obs.length with h' | h'
  ·omega
  ·rw [List.getElem?_eq_none h'] at hk; cases hk
 have hcal : ∀ (k : Nat) (ob0 : Ob) (l : Loc) (d : Addr), obs[k]? = some ob0 → ob0.live = true → locs3 locs locs' ids id m (bkN ids id k) = some l → (locs3 locs locs' ids id m).hs (bkN ids id k) l d → locs' k = some l ∧ locs'.hs k l d ∧ ownB locs' obs d.block := by
  intro k ob0 l d hk hlv hl hd
  rcases H'.ob k ob0 hk with rfl | ⟨rfl, _⟩ | ⟨l1, h1, _⟩
  ·cases hlv
  ·cases hlv
  ·have := hl3 k l1 h1
   rw [hl] at this; cases this
   have hd' : locs'.hs k l d := by unfold Locs.hs at hd ⊢; rw [hown3 k (hltk k ob0 hk)] at hd; exact hd
   exact ⟨h1, hd', k, l, d, ob0, hk, hlv, h1, hd', rfl⟩
 have hoth : ∀ (o : Nat) (l : Loc) (ob : Ob) (d : Addr), o ∉ ids → h[o]? = some ob → ob.live = true → locs o = some l → locs.hs o l d → ¬ ownB (reLocs locs ids) (ids.map fun o => reO ids (getO h o)) d.block := by
  rintro o l ob d hni ho hlv hl hd ⟨k2, l2, d2, ob2, g1, g2, g3, g4, g5⟩
  obtain ⟨o2, ob3, i1, i2, i3, i4⟩ := hlive1 k2 ob2 g1 g2
  refine H.apart o2 o l2 l ob3 ob d2 d ?_ i2 ho i3 hlv (by rw [← i4]; exact g3) hl ((re_hs i1).1 g4) hd g5
  rintro rfl
  exact hni (List.mem_of_getElem? i1)
 have hlocn : ∀ o, ¬ (id ≤ o ∧ o < id + m) → locs3 locs locs' ids id m o = locs o := fun o ho => locs3_out ho
 have hbar : ∀ b, Bar ext (locs3 locs locs' ids id m) h3 b → Bar ext1 locs' obs b := by
  rintro b (hb | ⟨o, l, d, ob, g1, g2, g3, g4, rfl⟩)
  ·exact .inl ((hext b).2 ⟨.inl hb, fun hD => H.extOwn b hb (hown1 b hD)⟩)
  ·rcases h3get o ob g1 with ⟨k, ob0, rfl, i2, rfl⟩ | ⟨n1, n2, i2⟩
   ·rw [bkO_live] at g2
    exact .inr (hcal k ob0 l d i2 g2 g3 g4).2.2
   ·rw [hlocn o n2] at g3
    have g4 : locs.hs o l d := by unfold Locs.hs at g4 ⊢; rw [hownn o n1 n2] at g4; exact g4
    exact .inl ((hext _).2 ⟨.inr ⟨o, l, d, ob, i2, g2, g3, g4, rfl⟩, hoth o l ob d n1 i2 g2 g3 g4⟩)
 have hC : ∀ o, o ∈ ids ∨ (id ≤ o ∧ o < id + m) → ∃ k ob0, bkN ids id k = o ∧ obs[k]? = some ob0 := by
  rintro o (ho | ⟨h1, h2⟩)
  ·obtain ⟨k, hk⟩ := List.getElem?_of_mem ho
   have hlt : k < ids.length := by
    rcases Nat.lt_or_ge k ids.length with h' | h'
    ·exact h'
    ·rw [List.getElem?_eq_none h'] at hk; cases hk
   exact ⟨k, obs[k]'(by omega), by simp [bkN, hk], List.getElem?_eq_getElem _⟩
  ·refine ⟨ids.length + (o - id), obs[ids.length + (o - id)]'(by omega), ?_, List.getElem?_eq_getElem _⟩
   unfold bkN
   rw [List.getElem?_eq_none (by omega)]
   simp only
   omega
 have st := H.step (w' := w') (locs' := locs3 locs locs' ids id m) (h' := h3) (fun o => ∃ k ob0, bkN ids id k = o ∧ obs[k]? = some ob0) (ownB (reLocs locs ids) (ids.map fun o => reO ids (getO h o)))
  (fun b hb hD => H'.since.block b hb hD) H'.since.size H'.since.os H'.since.tape H'.since.output (fun b _ hD => hown1 b hD) hlo
  (fun o ho => by
   rw [hlocn o (fun ⟨h1, h2⟩ => by have := h3len2 (o - id) (by omega); omega)]
   exact H.len o (by omega))
  (fun o ob hc ho => by
   rcases h3get o ob ho with ⟨k, ob0, i1, i2, rfl⟩ | ⟨n1, n2, i2⟩
   ·exact absurd ⟨k, ob0, i1, i2⟩ hc
   ·exact ⟨i2, hlocn o n2, hownn o n1 n2⟩)
  (fun o b hb => by
   rcases hb with ⟨k, e, hk, hb⟩ | ⟨_, _, hb⟩
   ·exact H'.ownlt k b hb
   ·exact Nat.lt_of_lt_of_le (H.ownlt o b hb) H'.since.size)
  (fun o l ob d hc ho hlv hl hd => hoth o l ob d (fun hm => hc (hC o (.inl hm))) ho hlv hl hd)
  (fun b hb => by
   rintro ⟨o, l, d, ob, g1, g2, g3, g4, rfl⟩
   rcases h3get o ob g1 with ⟨k, ob0, rfl, i2, rfl⟩ | ⟨n1, n2, i2⟩
   ·rw [bkO_live] at g2
    exact hown1 _ (H'.ownOld _ hb (hcal k ob0 l d i2 g2 g3 g4).2.2)
   ·rw [hlocn o n2] at g3
    have g4 : locs.hs o l d := by unfold Locs.hs at g4 ⊢; rw [hownn o n1 n2] at g4; exact g4
    exact ⟨o, l, d, ob, i2, g2, g3, g4, rfl⟩)
  (fun o o' l l' ob ob' d d' hc hne ho ho' hlv hlv' hl hl' hd hd' => by
   rcases h3get o ob ho with ⟨k, ob0, rfl, i2, rfl⟩ | ⟨n1, n2, i2⟩
   ·rw [bkO_live] at hlv
    obtain ⟨c1, c3, c2⟩ := hcal k ob0 l d i2 hlv hl hd
    rcases h3get o' ob' ho' with ⟨k', ob0', rfl, i2', rfl⟩ | ⟨n1', n2', i2'⟩
    ·rw [bkO_live] at hlv'
     obtain ⟨c1', c3', c2'⟩ := hcal k' ob0' l' d' i2' hlv' hl' hd'
     exact H'.apart k k' l l' ob0 ob0' d d' (fun e => hne (by rw [e])) i2 i2' hlv hlv' c1 c1' c3 c3'
    ·rw [hlocn o' n2'] at hl'
     have hd' : locs.hs o' l' d' := by unfold Locs.hs at hd' ⊢; rw [hownn o' n1' n2'] at hd'; exact hd'
     intro e
     rw [e] at c2
     exact hoth o' l' ob' d' n1' i2' hlv' hl' hd' (H'.ownOld _ (H.own_lt ⟨o', l', d', ob', i2', hlv', hl', hd', rfl⟩) c2)
   ·obtain ⟨k, ob0, rfl, hk⟩ := hc
    exfalso
    unfold bkN at n1 n2
    cases hi : ids[k]? with
    | some q => rw [hi] at n1; exact n1 (List.mem_of_getElem? hi)
    | none =>
     rw [hi] at n2
     have h1 : ids.length ≤ k := by simpa using hi
     have h2 : k < obs.length := by
      rcases Nat.lt_or_ge k obs.length with h' | h'
      ·exact h'
      ·rw [List.getElem?_eq_none h'] at hk; cases hk
     exact n2 ⟨by simp only; omega, by simp only; omega⟩)
  (fun lt o ob hc ho => by
   rcases h3get o ob ho with ⟨k, ob0, rfl, i2, rfl⟩ | ⟨n1, n2, i2⟩
   ·rcases H'.ob k ob0 i2 with rfl | ⟨rfl, _⟩ | ⟨l, hl, hrep⟩
    ·exact .inl rfl
    ·exact absurd rfl (hrs _ (List.mem_of_getElem? i2))
    ·refine .inr (.inr ⟨l, hl3 k l hl, ?_⟩)
     have h5 := hrep.later (w' := w') (B' := Bar ext (locs3 locs locs' ids id m) h3) (locs' := locs') ⟨fun _ _ _ => rfl, fun b _ hb => hbar b hb⟩ (fun _ _ h => h) (fun _ _ _ => rfl) (fun _ _ _ => rfl)
     rw [hown3 k (hltk k _ i2)]
     cases ob0 with
     | no => trivial
     | rs => exact h5.elim
     | f et sz es => exact h5
     | z sz es => exact h5
     | r s et sz es n fo =>
      obtain ⟨g1, g2, g3⟩ := h5
      refine ⟨g1, g2, g3.imp_right ?_⟩
      rintro ⟨b, off, c, ty, SS, a1, a2, a3, a4, a5, a6, a7⟩
      refine ⟨b, off, c, ty, SS, a1, a2, a3, a4, a5, a6, fun i e he => ⟨(a7 i e he).1, fun j x hx => ?_⟩⟩
      obtain ⟨v, hv, hr⟩ := (a7 i e he).2 j x hx
      refine ⟨v, hv, ?_⟩
      unfold CR at hr ⊢
      split
      ·rename_i hk; rw [hk] at hr; exact hr
      ·rename_i s' hk
       rw [hk] at hr
       rcases hr with ⟨hr, hr1, hr2⟩ | ⟨hr0, ⟨o, sz, hr, hra⟩ | ⟨hr1, hr2⟩⟩
       ·refine .inl ⟨hr, fun o e => ?_, hr2⟩
        cases fo with
        | none => cases e
        | some p =>
         obtain ⟨p1, p2, p3⟩ := p
         simp only [Option.map_some, Option.some.injEq, Prod.mk.injEq] at e
         exact hr1 p3 (by rw [e.1, e.2.1])
       ·subst hr
        exact .inr ⟨hr0, .inl ⟨_, sz, rfl, bkA_ok (a := .ofl sz o) hl3 hra⟩⟩
       ·refine .inr ⟨hr0, .inr ⟨fun o e => ?_, hr2⟩⟩
        cases fo with
        | none => cases e
        | some p =>
         obtain ⟨p1, p2, p3⟩ := p
         simp only [Option.map_some, Option.some.injEq, Prod.mk.injEq] at e
         exact hr1 p3 (by rw [e.1, e.2.1])
     | g gt cs =>
      obtain ⟨g1, b, c, g2, g3, g4, g5⟩ := h5
      refine ⟨by simp [g1], b, c, g2, g3, by simp [g4], fun j x hx => ?_⟩
      simp only [List.getElem?_map, Option.map_eq_some_iff] at hx
      obtain ⟨y, hy, rfl⟩ := hx
      obtain ⟨u, hu, hra⟩ := g5 j y hy
      exact ⟨u, hu, bkA_ok hl3 hra⟩
   ·obtain ⟨k, ob0, e, hk⟩ := hc
    exfalso
    unfold bkN at e
    cases hi : ids[k]? with
    | some q => rw [hi] at e; simp only at e; subst e; exact n1 (List.mem_of_getElem? hi)
    | none =>
     rw [hi] at e
     simp only at e
     have h1 : ids.length ≤ k := by simpa using hi
     have h2 : k < obs.length := by
      rcases Nat.lt_or_ge k obs.length with h' | h'
      ·exact h'
      ·rw [List.getElem?_eq_none h'] at hk; cases hk
     exact n2 ⟨by omega, by omega⟩)
 exact ⟨st.1, st.2, hlo, hbar, hl3⟩
end
end
section
def AV.isPtr : AV → Bool
 | .ptr .. => true
 | _ => false
def hasPtr : TV → Bool
 | .one a => a.isPtr
 | .agg cs => cs.any AV.isPtr
 | _ => false
def shareArgs (h : List Ob) : Nat → List TV → Option (List TV × List Nat)
 | _, [] => some ([], [])
 | m, a :: r =>
  match shareArgs h (m / 2) r with
  | some (l, j) =>
   if (Nat.beq (m % 2) 1 || hasPtr a) = true then some (a :: l, j)
   else match frzTO h a with
    | some (v, i) => some (v :: l, i ++ j)
    | none => none
  | none => none
theorem shareArgs_congr {h h' : List Ob} : ∀ {m : Nat} {ts rs : List TV} {i : List Nat}, shareArgs h m ts = some (rs, i) → (∀ k ∈ i, h'[k]? = h[k]?) → shareArgs h' m ts = some (rs, i)
 | m, [], rs, i, hf, hi => hf
 | m, a :: r, rs, i, hf, hi => by
  unfold shareArgs at hf ⊢
  split at hf
  ·rename_i l j hl
   split at hf
   ·rename_i hp
    cases hf
    rw [shareArgs_congr hl hi]
    simp only [hp, if_true]
   ·rename_i hp
    split at hf
    ·rename_i v i1 hv
     cases hf
     rw [shareArgs_congr hl (fun k hk => hi k (List.mem_append_right _ hk))]
     simp only [hp, if_false, frzTO_congr hv (fun k hk => hi k (List.mem_append_left _ hk))]
     rfl
    ·cases hf
  ·cases hf
def exA : List AT → (List AV → Prop) → Prop
 | [], K => K []
 | .a x :: r, K => exA r fun l => K (x :: l)
 | .k c :: r, K => exC [c] fun v => exA r fun l => K (v.map .fz ++ l)
def exOb : List OT → (List Ob → Prop) → Prop
 | [], K => K []
 | .no :: r, K => exOb r fun l => K (.no :: l)
 | .f et sz :: r, K => ∃ es : List (List FV), exOb r fun l => K (.f et sz es :: l)
 | .z sz :: r, K => ∃ es : List (List FV), exOb r fun l => K (.z sz es :: l)
 | .g gt cs :: r, K => exA cs fun c => exOb r fun l => K (.g gt c :: l)
 | .r s sz :: r, K => ∃ es : List (List FV), exOb r fun l => K (.r s 0 sz es none none :: l)
def exP : List (Bool × List AT) → (List (Bool × List AV) → Prop) → Prop
 | [], K => K []
 | (b, cs) :: r, K => exA cs fun c => exP r fun l => K ((b, c) :: l)
theorem exA_out : ∀ {l : List AT} {K : List AV → Prop}, exA l K → ∃ c, K c
 | [], K, h => ⟨[], h⟩
 | .a x :: r, K, h => by obtain ⟨c, h⟩ := exA_out (l := r) h; exact ⟨_, h⟩
 | .k c :: r, K, h => by obtain ⟨v, h⟩ := exC_out (ks := [c]) h; obtain ⟨c, h⟩ := exA_out (l := r) h; exact ⟨_, h⟩
theorem exOb_out : ∀ {l : List OT} {K : List Ob → Prop}, exOb l K → ∃ c, K c ∧ ∀ ob ∈ c, ob ≠ .rs
 | [], K, h => ⟨[], h, by simp⟩
 | .no :: r, K, h => by obtain ⟨c, h, hc⟩ := exOb_out (l := r) h; exact ⟨_, h, fun ob hm => by cases hm with | head => simp | tail _ hm => exact hc ob hm⟩
 | .f et sz :: r, K, h => by obtain ⟨es, h⟩ := h; obtain ⟨c, h, hc⟩ := exOb_out (l := r) h; exact ⟨_, h, fun ob hm => by cases hm with | head => simp | tail _ hm => exact hc ob hm⟩
 | .z sz :: r, K, h => by obtain ⟨es, h⟩ := h; obtain ⟨c, h, hc⟩ := exOb_out (l := r) h; exact ⟨_, h, fun ob hm => by cases hm with | head => simp | tail _ hm => exact hc ob hm⟩
 | .r s sz :: r, K, h => by obtain ⟨es, h⟩ := h; obtain ⟨c, h, hc⟩ := exOb_out (l := r) h; exact ⟨_, h, fun ob hm => by cases hm with | head => simp | tail _ hm => exact hc ob hm⟩
 | .g gt cs :: r, K, h => by
  obtain ⟨c0, h⟩ := exA_out h
  obtain ⟨c, h, hc⟩ := exOb_out (l := r) h
  exact ⟨_, h, fun ob hm => by cases hm with | head => simp | tail _ hm => exact hc ob hm⟩
theorem exP_out : ∀ {l : List (Bool × List AT)} {K : List (Bool × List AV) → Prop}, exP l K → ∃ c, K c
 | [], K, h => ⟨[], h⟩
 | (b, cs) :: r, K, h => by obtain ⟨c0, h⟩ := exA_out h; obtain ⟨c, h⟩ := exP_out (l := r) h; exact ⟨_, h⟩
def orS : List Sig → (Sig → Prop) → Prop
 | [], _ => False
 | [s], f => f s
 | s :: r, f => f s ∨ orS r f
theorem orS_out {f : Sig → Prop} : ∀ {l : List Sig}, orS l f → ∃ s, f s
 | [], h => h.elim
 | [s], h => ⟨s, h⟩
 | s :: s' :: r, h => by
  rcases h with h | h
  ·exact ⟨s, h⟩
  ·exact orS_out (l := s' :: r) h
def okOb : Ob → Bool
 | .no | .rs => false
 | _ => true
def backW (ids : List Nat) (id : Nat) (k : Nat) (obs : List Ob) : List (Nat × Ob) := (obs.zipIdx k).map fun (ob, k) => (bkN ids id k, bkO ids id ob)
def shOf : List Sig → Nat
 | [] => 0
 | s :: _ => s.sh
def evCallS (P : Program) (dr : Bool) (ss : List Sig) (g : FuncId) (args : List TV) (h : List Ob) (id : Nat) (K : OpK) : Prop :=
 match P.funcs[g]? with
 | some fn =>
  if fn.body.isSome = true ∧ (fn.name == "runtime.NumGoroutine") = false then
   match shareArgs h (shOf ss) (argsK P fn.params.toList args) with
   | some (ags, rd) =>
    let ids := idsH h 64 0 (idsT ags [])
    if ids.Nodup ∧ (ids.all fun o => okOb (getO h o) && !rd.contains o) = true then
     orS (ss.filter fun S => S.n == ids.length) fun S => exOb S.obs fun obs => exP S.res fun l => Fn P g (ags.map (reT ids)) (ids.map fun o => reO ids (getO h o)) (toTV l) obs ∧
      if ids.length ≤ obs.length ∧ (dr = true → obs.length ≤ ids.length + 1) then K (toTV (l.map fun p => (p.1, p.2.map (bkA ids id)))) (zs h rd ++ backW ids id 0 obs) (ids ++ rd) else False
    else False
   | none => False
  else False
 | none => False
def keysOK : Nat → List (Nat × Ob) → Prop
 | _, [] => True
 | n, (o, _) :: r => o ≤ n ∧ keysOK (max n (o + 1)) r
theorem putO_max {h : List Ob} {o : Nat} {ob : Ob} (ho : o ≤ h.length) : (putO h o ob).length = max h.length (o + 1) := by
 unfold putO
 split
 ·simp only [List.length_set]; omega
 ·simp only [List.length_append, List.length_cons, List.length_nil]; omega
theorem putOs_keys : ∀ (wr : List (Nat × Ob)) (h : List Ob), keysOK h.length wr → h.length ≤ (putOs h wr).length ∧ (∀ p ∈ wr, p.1 < (putOs h wr).length) ∧
  ∀ (o : Nat) (ob : Ob), (putOs h wr)[o]? = some ob → (o, ob) ∈ wr ∨ ((∀ p ∈ wr, p.1 ≠ o) ∧ h[o]? = some ob)
 | [], h, _ => ⟨Nat.le_refl _, by simp, fun o ob ho => .inr ⟨by simp, ho⟩⟩
 | (q, x) :: r, h, hk => by
  obtain ⟨h1, h2⟩ := hk
  have hl := putO_max (h := h) (ob := x) h1
  obtain ⟨i1, i2, i3⟩ := putOs_keys r (putO h q x) (by rw [hl]; exact h2)
  simp only [putOs]
  refine ⟨by omega, fun p hp => ?_, fun o ob ho => ?_⟩
  ·cases hp with
   | head => simp only; omega
   | tail _ hp => exact i2 p hp
  ·rcases i3 o ob ho with h3 | ⟨h3, h4⟩
   ·exact .inl (List.mem_cons_of_mem _ h3)
   ·rw [putO_get h1] at h4
    by_cases e : o = q
    ·rw [if_pos e] at h4
     cases h4
     exact .inl (by rw [e]; simp)
    ·rw [if_neg e] at h4
     refine .inr ⟨fun p hp => ?_, h4⟩
     cases hp with
     | head => exact fun e' => e e'.symm
     | tail _ hp => exact h3 p hp
theorem backW_keys {ids : List Nat} {id n : Nat} (hids : ∀ o ∈ ids, o < n) (hid : id ≤ n) : ∀ (obs : List Ob) (k L : Nat), n ≤ L → (ids.length < k → id + (k - ids.length) ≤ L) → keysOK L (backW ids id k obs)
 | [], k, L, _, _ => trivial
 | ob :: obs, k, L, hL, hk => by
  simp only [backW, List.zipIdx_cons, List.map_cons, keysOK]
  have hkey : bkN ids id k ≤ L := by
   unfold bkN
   cases hi : ids[k]? with
   | some o => have := hids o (List.mem_of_getElem? hi); simp only; omega
   | none =>
    have h1 : ids.length ≤ k := by simpa using hi
    simp only
    rcases Nat.lt_or_ge ids.length k with h' | h'
    ·exact hk h'
    ·have : k = ids.length := by omega
     subst this
     simp; omega
  refine ⟨hkey, backW_keys hids hid obs (k + 1) _ (by omega) (fun h' => ?_)⟩
  have : bkN ids id k = id + (k - ids.length) := by
   unfold bkN
   rw [List.getElem?_eq_none (by omega)]
  omega
theorem backW_mem {ids : List Nat} {id : Nat} {obs : List Ob} {o : Nat} {ob : Ob} : (o, ob) ∈ backW ids id 0 obs ↔ ∃ k ob0, bkN ids id k = o ∧ obs[k]? = some ob0 ∧ ob = bkO ids id ob0 := by
 simp only [backW, List.mem_map, Prod.mk.injEq, Prod.exists]
 constructor
 ·rintro ⟨ob0, k, h1, h2, h3⟩
  have := List.mem_zipIdx_iff_getElem?.1 h1
  exact ⟨k, ob0, h2, this, h3.symm⟩
 ·rintro ⟨k, ob0, h1, h2, h3⟩
  exact ⟨ob0, k, List.mem_zipIdx_iff_getElem?.2 h2, h1, h3.symm⟩
section
variable {P : Program} {ext : Nat → Prop} {w0 : World} {own0 : Own0} {locs : Locs} {h : List Ob} {w : World}
theorem shareArgs_ok {rd : List Nat} (H : RepH P ext w0 own0 locs h w) : ∀ {m : Nat} {ts rs : List TV} {i : List Nat}, shareArgs h m ts = some (rs, i) → (∀ k ∈ i, k ∈ rd) → rs.length = ts.length ∧
  ∀ (vs : List Value), (∀ (j : Nat) (x : TV), ts[j]? = some x → ∃ u, vs[j]? = some u ∧ RT w (Bar ext locs h) locs x u) → ∀ (j : Nat) (x : TV), rs[j]? = some x → ∃ u, vs[j]? = some u ∧ RT w (Bar ext locs (putOs h (zs h rd))) locs x u
 | m, [], rs, i, hf, hi => by cases hf; exact ⟨rfl, by simp⟩
 | m, a :: r, rs, i, hf, hi => by
  unfold shareArgs at hf
  split at hf
  ·rename_i l j hl
   split at hf
   ·cases hf
    obtain ⟨h1, h2⟩ := shareArgs_ok H hl hi
    refine ⟨by simp [h1], fun vs hvs q x hx => ?_⟩
    cases q with
    | zero =>
     cases hx
     obtain ⟨u, hu, hr⟩ := hvs 0 _ rfl
     exact ⟨u, hu, hr.later (zs_ok rd H).2.1 (fun _ _ h => h)⟩
    | succ q =>
     cases vs with
     | nil => obtain ⟨u, hu, _⟩ := hvs 0 _ rfl; cases hu
     | cons v vs => exact h2 vs (fun q' x' hx' => hvs (q' + 1) x' hx') q x hx
   ·split at hf
    ·rename_i v i1 hv
     cases hf
     obtain ⟨h1, h2⟩ := shareArgs_ok H hl (fun k hk => hi k (List.mem_append_right _ hk))
     refine ⟨by simp [h1], fun vs hvs q x hx => ?_⟩
     cases q with
     | zero =>
      cases hx
      obtain ⟨u, hu, hr⟩ := hvs 0 _ rfl
      exact ⟨u, hu, frzTO_ok H hv (fun k hk => hi k (List.mem_append_left _ hk)) hr locs⟩
     | succ q =>
      cases vs with
      | nil => obtain ⟨u, hu, _⟩ := hvs 0 _ rfl; cases hu
      | cons v vs => exact h2 vs (fun q' x' hx' => hvs (q' + 1) x' hx') q x hx
    ·cases hf
  ·cases hf
theorem zs_get : ∀ (rd : List Nat) (h : List Ob) (o : Nat), o ∉ rd → (putOs h (zs h rd))[o]? = h[o]?
 | [], h, o, _ => rfl
 | q :: r, h, o, ho => by
  unfold zs
  split
  ·rename_i z hg
   have hq : h[q]? = some (getO h q) := getO_some rfl (frzOb_ne hg).1
   simp only [putOs, putO_lt hq]
   rw [zs_get r _ o (fun hm => ho (List.mem_cons_of_mem _ hm)), set_get hq, if_neg (fun e => ho (by rw [e]; simp))]
  ·exact zs_get r h o (fun hm => ho (List.mem_cons_of_mem _ hm))
theorem callS_core {C : Array Value → World → (Ending → World → Prop) → Prop} {E : Ending → Value → Prop} (hC : ∀ (vals : Array Value) (w : World) (R R' : Ending → World → Prop), (∀ e w', R e w' → R' e w') → C vals w R → C vals w R') (H : RepH P ext w0 own0 locs h w) {m : Nat} {ts ags : List TV} {rd : List Nat} (hs : shareArgs h m ts = some (ags, rd)) {ids : List Nat} (hn : ids.Nodup) (hok : (ids.all fun o => okOb (getO h o) && !rd.contains o) = true)
  {id : Nat} {l : List (Bool × List AV)} {obs : List Ob} (hrs : ∀ ob ∈ obs, ob ≠ .rs) (hlen : ids.length ≤ obs.length) (hid : id ≤ h.length) (hfr : ∀ j, j < obs.length - ids.length → locs (id + j) = none)
  (F : FnC P C E (ags.map (reT ids)) (ids.map fun o => reO ids (getO h o)) (toTV l) obs) {vals : Array Value} (hv : vals.size = ts.length)
  (hrep : ∀ (i : Nat) (x : TV), ts[i]? = some x → ∃ v, vals[i]? = some v ∧ RT w (Bar ext locs h) locs x v) :
  C vals w fun e w' => ∃ v locs', E e v ∧ RepH P ext w0 own0 locs' (putOs h (zs h rd ++ backW ids id 0 obs)) w' ∧ Later w (Bar ext locs h) w' (Bar ext locs' (putOs h (zs h rd ++ backW ids id 0 obs))) ∧
   (∀ (o : Nat) (x : Loc), locs o = some x → locs' o = some x) ∧ RT w' (Bar ext locs' (putOs h (zs h rd ++ backW ids id 0 obs))) locs' (toTV (l.map fun p => (p.1, p.2.map (bkA ids id)))) v := by
 obtain ⟨H2, lt2, hlen2, _⟩ := zs_ok rd H
 rw [putOs_app]
 obtain ⟨s1, s2⟩ := shareArgs_ok (rd := rd) H hs (fun _ h => h)
 have hok' : ∀ o ∈ ids, okOb (getO h o) = true ∧ o ∉ rd := fun o ho => by
  have := List.all_eq_true.1 hok o ho
  simpa using this
 have hsame : ∀ o ∈ ids, (putOs h (zs h rd))[o]? = h[o]? := fun o ho => zs_get rd h o (hok' o ho).2
 generalize hh2 : putOs h (zs h rd) = h2 at *
 have hmap : (ids.map fun o => reO ids (getO h o)) = ids.map fun o => reO ids (getO h2 o) := List.map_congr_left fun o ho => by rw [getO_congr (hsame o ho)]
 rw [hmap] at F
 have hids : ∀ o ∈ ids, ∃ ob, h2[o]? = some ob ∧ ob ≠ .no ∧ ob ≠ .rs := fun o ho => by
  have h1 := (hok' o ho).1
  rw [← getO_congr (hsame o ho)] at h1
  refine ⟨getO h2 o, getO_some rfl ?_, ?_, ?_⟩ <;> (intro e; rw [e] at h1; cases h1)
 have hloc : ∀ o ∈ ids, ∃ lc, locs o = some lc := fun o ho => by
  obtain ⟨ob, h1, h2, h3⟩ := hids o ho
  obtain ⟨lc, hl, _⟩ := H2.get h1 h2 h3
  exact ⟨lc, hl⟩
 let own1 := ownB (reLocs locs ids) (ids.map fun o => reO ids (getO h2 o))
 have hown0 : ∀ b, own1 b → ownB locs h2 b := by
  rintro b ⟨k, lc, d, ob, i1, i2, i3, i4, rfl⟩
  simp only [List.getElem?_map, Option.map_eq_some_iff] at i1
  obtain ⟨o, g1, g2⟩ := i1
  have hl : (getO h2 o).live = true := by
   rw [← g2] at i2
   cases hq : getO h2 o with
   | r s et sz es n fo => rfl
   | no => rw [hq] at i2; cases i2
   | rs => rw [hq] at i2; cases i2
   | z sz es => rw [hq] at i2; cases i2
   | f et sz es => rfl
   | g gt cs => rfl
  exact ⟨o, lc, d, getO h2 o, getO_some rfl (by rintro e; rw [e] at hl; cases hl), hl, by simpa [reLocs, g1] using i3, (re_hs g1).1 i4, rfl⟩
 have hhi : ∀ b, own1 b → ¬ isTab b := fun b hb => H2.ownTab b (hown0 b hb)
 obtain ⟨H1, lt1, hown1, hlive1⟩ := reH_gen H2 hn (ext' := fun b => Bar ext locs h2 b ∧ ¬ own1 b) (w0' := w) (own0' := ⟨own1, reLocs locs ids, []⟩) (fun b hb => hb.1) (fun b hb => hb.2) (fun b _ hb => hb) (Since.refl _ _) (H2.baseAt hhi (fun b hb => H2.barTab b hb.1)) (fun _ _ h => h)
 refine hC _ _ _ _ (fun e w' ⟨v, locs', he, H', hRT⟩ => ⟨v, ?_⟩) (F _ w _ vals H1 (by simp [hv, s1]) (fun i x hx => ?_))
 ·simp only [List.getElem?_map, Option.map_eq_some_iff] at hx
  obtain ⟨y, hy, rfl⟩ := hx
  obtain ⟨u, hu, hr⟩ := s2 vals.toList (fun j z hz => by obtain ⟨u, hu, hra⟩ := hrep j z hz; exact ⟨u, by simpa using hu, hra⟩) i y hy
  exact ⟨u, by simpa using hu, reT_ok (hr.later lt1 (fun _ _ h => h))⟩
 ·have hidl : ∀ o ∈ ids, o < h2.length := fun o ho => by
   obtain ⟨ob, h1, _⟩ := hids o ho
   rcases Nat.lt_or_ge o h2.length with h' | h'
   ·exact h'
   ·rw [List.getElem?_eq_none h'] at h1; cases h1
  obtain ⟨k1, k2, k3⟩ := putOs_keys (backW ids id 0 obs) h2 (backW_keys hidl (by rw [hlen2]; exact hid) obs 0 _ (Nat.le_refl _) (by omega))
  have hback : ∀ k, k < obs.length → ∃ ob, (bkN ids id k, ob) ∈ backW ids id 0 obs := fun k hk => ⟨_, backW_mem.2 ⟨k, obs[k], rfl, List.getElem?_eq_getElem hk, rfl⟩⟩
  have hnew : ∀ j, j < obs.length - ids.length → bkN ids id (ids.length + j) = id + j := fun j _ => by
   unfold bkN
   rw [List.getElem?_eq_none (by omega)]
   simp only; omega
  obtain ⟨r1, r2, r3, r4, r5⟩ := share_back (id := id) (m := obs.length - ids.length) H2 hn hids hfr (ext1 := fun b => Bar ext locs h2 b ∧ ¬ own1 b) (fun b => Iff.rfl) H' hown1 hlive1 (by omega) hrs (h3 := putOs h2 (backW ids id 0 obs)) k1
   (fun j hj => by
    obtain ⟨ob, hm⟩ := hback (ids.length + j) (by omega)
    have := k2 _ hm
    rw [hnew j hj] at this
    exact this)
   (fun o ob ho => by
    rcases k3 o ob ho with h1 | ⟨h1, h2'⟩
    ·exact .inl (backW_mem.1 h1)
    ·refine .inr ⟨fun hm => ?_, fun hm => ?_, h2'⟩
     ·obtain ⟨k, hk⟩ := List.getElem?_of_mem hm
      have hlt : k < ids.length := by
       rcases Nat.lt_or_ge k ids.length with h' | h'
       ·exact h'
       ·rw [List.getElem?_eq_none h'] at hk; cases hk
      obtain ⟨ob', hm'⟩ := hback k (by omega)
      refine h1 _ hm' ?_
      simp [bkN, hk]
     ·obtain ⟨ob', hm'⟩ := hback (ids.length + (o - id)) (by omega)
      refine h1 _ hm' ?_
      simp only
      rw [hnew (o - id) (by omega)]
      omega)
  refine ⟨_, he, r1, lt2.trans r2 (Nat.le_refl _), r3, ?_⟩
  refine toTV_rep (by simp) (fun i b cs hi => ⟨cs.map (bkA ids id), by simp [hi], by simp, fun v hv => ?_⟩) hRT
  obtain ⟨vs, h7, h8, h9, h10⟩ := hv
  refine ⟨vs, h7, by simp [h8], h9, fun j x hx => ?_⟩
  simp only [List.getElem?_map, Option.map_eq_some_iff] at hx
  obtain ⟨y, hy, rfl⟩ := hx
  obtain ⟨u, hu, hr⟩ := h10 j y hy
  exact ⟨u, hu, bkA_ok r5 (hr.later ⟨fun _ _ _ => rfl, fun b _ hb => r4 b hb⟩ (fun _ _ h => h))⟩
end
end
section
def evCallG (P : Program) (M : Mode) (dr : Bool) (fo : Operand) (args : List Operand) (t : List TV) (h : List Ob) (id : Nat) (K : OpK) : Prop :=
 match ev t fo with
 | .one (.fz (.fn g caps)) =>
  match M.sig g with
  | [] => evCallF P M dr g (args.map (ev t) ++ caps.map capT) h id K
  | s :: ss => evCallS P dr (s :: ss) g (args.map (ev t) ++ caps.map capT) h id K
 | _ => False
theorem evCallS_split {P : Program} {dr : Bool} {ss : List Sig} {g : FuncId} {args : List TV} {h : List Ob} {id : Nat} {K : OpK} (he : evCallS P dr ss g args h id K) : ∃ fn, P.funcs[g]? = some fn ∧ fn.body.isSome = true ∧ (fn.name == "runtime.NumGoroutine") = false ∧
  ∃ ags rd, shareArgs h (shOf ss) (argsK P fn.params.toList args) = some (ags, rd) ∧ ∃ ids, ids = idsH h 64 0 (idsT ags []) ∧ ids.Nodup ∧ (ids.all fun o => okOb (getO h o) && !rd.contains o) = true ∧
  ∃ (obs : List Ob) (l : List (Bool × List AV)), (∀ ob ∈ obs, ob ≠ .rs) ∧ Fn P g (ags.map (reT ids)) (ids.map fun o => reO ids (getO h o)) (toTV l) obs ∧ ids.length ≤ obs.length ∧ (dr = true → obs.length ≤ ids.length + 1) ∧
   K (toTV (l.map fun p => (p.1, p.2.map (bkA ids id)))) (zs h rd ++ backW ids id 0 obs) (ids ++ rd) := by
 unfold evCallS at he
 split at he
 ·rename_i fn hfn
  split at he
  ·rename_i hc
   split at he
   ·rename_i ags rd hs
    simp only at he
    split at he
    ·rename_i hn
     obtain ⟨S, he⟩ := orS_out he
     obtain ⟨obs, he, hrs⟩ := exOb_out he
     obtain ⟨l, F, he⟩ := exP_out he
     split at he
     ·rename_i hl
      exact ⟨fn, hfn, hc.1, hc.2, ags, rd, hs, _, rfl, hn.1, hn.2, obs, l, hrs, F, hl.1, hl.2, he⟩
     ·exact he.elim
    ·exact he.elim
   ·exact he.elim
  ·exact he.elim
 ·exact he.elim
theorem callG_seq {P : Program} {M : Mode} {o : Oper} {fo : Operand} {args argTypes : _} (hop : o.op = .call { callee := .value fo, args := args, argTypes := argTypes }) {t : List TV} {h : List Ob} {K : OpK}
  (he : evCallG P M false fo args.toList t h h.length K) : ∃ v wr rd, K v wr rd ∧ OpSeq P o t h v wr := by
 unfold evCallG at he
 split at he
 ·rename_i g caps hfo
  split at he
  ·exact call_seq hop (by unfold evCall; rw [hfo]; exact he)
  ·obtain ⟨fn, hfn, hb, hnm, ags, rd, hs, ids, hid, hn, hok, obs, l, hrs, F, hl1, hl2, hk⟩ := evCallS_split he
   refine ⟨_, _, _, hk, fun ext w0 own0 a w Q R => ?_⟩
   obtain ⟨locs, H, RTm⟩ := R.repT
   obtain ⟨vals, hrun, hvs, hvr⟩ := call_vals hop hfo hfn hb hnm (fun _ _ => rfl) RTm fn.params.toList
   refine wp_enter hrun ((callS_core (C := Calls P g) (E := isRet) (fun _ _ _ _ hr hc => Calls.mono hc hr) H hs hn hok hrs hl1 (Nat.le_refl _) (fun j _ => H.len _ (Nat.le_add_right _ _)) F.toC hvs hvr).mono fun e w' ⟨v, locs', he, H', lt, hlo, hRT⟩ => ⟨v, he, ?_⟩)
   exact Rep.mkput R RTm H' lt hlo o.dst _ v hRT
 ·exact he.elim
theorem callG_ok {P : Program} {M : Mode} {o : Oper} {fo : Operand} {args argTypes : _} (hop : o.op = .call { callee := .value fo, args := args, argTypes := argTypes }) {t : List TV} {h : List Ob} {id : Nat} {K : OpK}
  (he : evCallG P M true fo args.toList t h id K) : ∃ v wr rd, K v wr rd ∧ OpOK P o t h id v wr rd := by
 unfold evCallG at he
 split at he
 ·rename_i g caps hfo
  split at he
  ·exact call_ok hop (by unfold evCall; rw [hfo]; exact he)
  ·obtain ⟨fn, hfn, hb, hnm, ags, rd, hs, ids, hid, hn, hok, obs, l, hrs, F, hl1, hl2, hk⟩ := evCallS_split he
   refine ⟨_, _, _, hk, fun ext w0 own0 t' h' a w Q hlen hag hrd hf R => ?_⟩
   obtain ⟨locs, H, RTm⟩ := R.repT
   obtain ⟨vals, hrun, hvs, hvr⟩ := call_vals hop hfo hfn hb hnm hag RTm fn.params.toList
   have hids : ∀ q ∈ ids, h'[q]? = h[q]? := fun q hq => hrd q (List.mem_append_left _ hq)
   have hrd' : ∀ q ∈ rd, h'[q]? = h[q]? := fun q hq => hrd q (List.mem_append_right _ hq)
   have hs' := shareArgs_congr hs hrd'
   have hmap : (ids.map fun o => reO ids (getO h o)) = ids.map fun o => reO ids (getO h' o) := List.map_congr_left fun q hq => by rw [getO_congr (hids q hq)]
   rw [hmap] at F
   have hok' : (ids.all fun o => okOb (getO h' o) && !rd.contains o) = true := by
    rw [List.all_eq_true] at hok ⊢
    intro q hq
    rw [getO_congr (hids q hq)]
    exact hok q hq
   rw [← zs_congr rd hrd']
   obtain ⟨f1, f2⟩ := fresh_none H hf
   refine wp_enter hrun ((callS_core (C := Calls P g) (E := isRet) (fun _ _ _ _ hr hc => Calls.mono hc hr) H hs' hn hok' hrs hl1 f2 (fun j hj => by
    have : j = 0 := by have := hl2 rfl; omega
    subst this; exact f1) F.toC hvs hvr).mono fun e w' ⟨v, locs', he, H', lt, hlo, hRT⟩ => ⟨v, he, ?_⟩)
   exact Rep.mkput R RTm H' lt hlo o.dst _ v hRT
 ·exact he.elim
end
section
def capT1 (h : List Ob) : TV → Option ((Bool × List FV) × List (Nat × Ob) × List Nat)
 | .one (.ptr o 0 0 _) =>
  match getO h o with
  | .g _ cs => match frzL cs with
   | some fs => some ((false, [.fp fs]), [(o, .z cs.length [fs])], [o])
   | none => none
  | .z _ [fs] => some ((false, [.fp fs]), [], [o])
  | _ => none
 | x => match frzT x with
  | some p => some (p, [], [])
  | none => none
def capTs (h : List Ob) : List TV → Option (List (Bool × List FV) × List (Nat × Ob) × List Nat)
 | [] => some ([], [], [])
 | x :: r => match capT1 h x with
  | some (p, wr, rd) => match capTs (putOs h wr) r with
   | some (l, wr', rd') => some (p :: l, wr ++ wr', rd ++ rd')
   | none => none
  | none => none
def evMakeFuncO (t : List TV) (fn : Go.Fn) (first caps : List Operand) (h : List Ob) (K : OpK) : Prop :=
 match fn, first, capTs h (caps.map (ev t)) with
 | .func f, [], some (cs, wr, rd) => K (.one (.fz (.fn f cs))) wr rd
 | _, _, _ => False
section
variable {P : Program} {ext : Nat → Prop} {w0 : World} {own0 : Own0} {locs : Locs} {h h' : List Ob} {w w' : World}
theorem z_ptr {B : Nat → Prop} {sz o : Nat} {fs : List FV} {ty : TypeId} {v : Value} {l : Loc} {S : Nat → Prop} (hl : locs o = some l) (hob : RepOb P w B locs S l (.z sz [fs])) (hv : RA w B locs (.ptr o 0 0 ty) v) : RF w B (.fp fs) v := by
 obtain ⟨l', d, h1, h2, rfl⟩ := hv
 rw [hl] at h1; cases h1
 obtain ⟨hs, hln, hlay⟩ := hob
 rcases hlay with hlay | ⟨b, off, hla, hcell⟩
 ·cases hlay
 ·rw [hla] at h2; cases h2
  obtain ⟨_, hc⟩ := hcell 0 fs rfl
  simp only [Nat.zero_mul, Nat.add_zero] at hc ⊢
  refine .fp fs b off (fun j => (w.cell? ⟨b, off + j, none⟩).getD undef) (fun j x hx => (hc j x hx).1) (fun j x hx => ?_) (fun j x hx => ?_)
  ·obtain ⟨_, v, h1, _⟩ := hc j x hx; rw [h1]; rfl
  ·obtain ⟨_, v, h1, h2⟩ := hc j x hx; rw [h1]; exact h2
def KeptV (w : World) (B : Nat → Prop) (p : Bool × List FV) (u : Value) : Prop :=
 ∃ vs : List Value, u = mkV p.1 vs ∧ vs.length = p.2.length ∧ ∀ (j : Nat) (x : FV), p.2[j]? = some x → ∃ v, vs[j]? = some v ∧ RF w B x v
theorem KeptV.later {B B' : Nat → Prop} (l : Later w B w' B') {p : Bool × List FV} {u : Value} (h : KeptV w B p u) : KeptV w' B' p u := by
 obtain ⟨vs, h1, h2, h3⟩ := h
 exact ⟨vs, h1, h2, fun j x hx => by obtain ⟨v, h4, h5⟩ := h3 j x hx; exact ⟨v, h4, h5.later l⟩⟩
theorem getO_eq {o : Nat} (he : h'[o]? = h[o]?) {ob : Ob} (hg : getO h o = ob) (hne : ob ≠ .no) : h'[o]? = some ob := he.trans (getO_some hg hne)
theorem capT1_ok (H : RepH P ext w0 own0 locs h' w) {x : TV} {p : Bool × List FV} {wr : List (Nat × Ob)} {rd : List Nat} (hc : capT1 h x = some (p, wr, rd)) (hag : ∀ i ∈ rd, h'[i]? = h[i]?) {u : Value} (hu : RT w (Bar ext locs h') locs x u) :
  RepH P ext w0 own0 locs (putOs h' wr) w ∧ Later w (Bar ext locs h') w (Bar ext locs (putOs h' wr)) ∧ (∀ i : Nat, h'[i]? = h[i]? → (putOs h' wr)[i]? = (putOs h wr)[i]?) ∧ KeptV w (Bar ext locs (putOs h' wr)) p u := by
 unfold capT1 at hc
 split at hc
 ·rename_i o ty
  split at hc
  ·rename_i gt cs hg
   split at hc
   ·rename_i fs hfs
    cases hc
    have ho := getO_eq (hag o (by simp)) hg (by simp)
    have ho2 : h[o]? = some (.g gt cs) := getO_some hg (by simp)
    obtain ⟨H1, l1⟩ := H.frzG ho hfs
    simp only [putOs, putO_lt ho, putO_lt ho2]
    refine ⟨H1, l1, fun i hi => ?_, ?_⟩
    ·rw [set_get ho, set_get ho2, hi]
    ·have hz : (h'.set o (.z cs.length [fs]))[o]? = some (.z cs.length [fs]) := by rw [set_get ho, if_pos rfl]
     obtain ⟨l, hl, hob⟩ := H1.get hz (by simp) (by simp)
     have h5 := hu.later l1 (fun _ _ h => h)
     exact ⟨[u], rfl, rfl, fun j x hx => by
      cases j with
      | zero => cases hx; exact ⟨u, rfl, z_ptr (ty := ty) hl hob h5⟩
      | succ j => simp at hx⟩
   ·cases hc
  ·rename_i sz fs hg
   cases hc
   have ho := getO_eq (hag o (by simp)) hg (by simp)
   obtain ⟨l, hl, hob⟩ := H.get ho (by simp) (by simp)
   refine ⟨H, Later.refl _ _, fun i hi => hi, [u], rfl, rfl, fun j x hx => ?_⟩
   cases j with
   | zero => cases hx; exact ⟨u, rfl, z_ptr (ty := ‹TypeId›) hl hob hu⟩
   | succ j => simp at hx
  ·cases hc
 ·split at hc
  ·rename_i p' hp
   cases hc
   obtain ⟨b, l⟩ := p
   obtain ⟨vs, h1, h2, _, h3⟩ := frzT_ok hp hu
   exact ⟨H, Later.refl _ _, fun i hi => hi, vs, h1, h2, h3⟩
  ·cases hc
theorem capTs_ok : ∀ (xs : List TV) {h h' : List Ob} (H : RepH P ext w0 own0 locs h' w) {l : List (Bool × List FV)} {wr : List (Nat × Ob)} {rd : List Nat}, capTs h xs = some (l, wr, rd) → (∀ i ∈ rd, h'[i]? = h[i]?) →
  ∀ (vs : List Value), (∀ (i : Nat) (x : TV), xs[i]? = some x → ∃ v, vs[i]? = some v ∧ RT w (Bar ext locs h') locs x v) →
  RepH P ext w0 own0 locs (putOs h' wr) w ∧ Later w (Bar ext locs h') w (Bar ext locs (putOs h' wr)) ∧ l.length = xs.length ∧ ∀ (i : Nat) (p : Bool × List FV), l[i]? = some p → ∃ u, vs[i]? = some u ∧ KeptV w (Bar ext locs (putOs h' wr)) p u
 | [], h, h', H, l, wr, rd, hc, hag, vs, hv => by
  cases hc
  exact ⟨H, Later.refl _ _, rfl, by simp⟩
 | x :: r, h, h', H, l, wr, rd, hc, hag, vs, hv => by
  unfold capTs at hc
  split at hc
  ·rename_i p wr1 rd1 h1
   split at hc
   ·rename_i l2 wr2 rd2 h2
    cases hc
    obtain ⟨u, hu, hr⟩ := hv 0 x rfl
    obtain ⟨H1, l1, hs, hk⟩ := capT1_ok H h1 (fun i hi => hag i (by simp [hi])) hr
    obtain ⟨H2, l3, hlen, hrest⟩ := capTs_ok r H1 h2 (fun i hi => hs i (hag i (by simp [hi]))) (vs.drop 1) (fun i y hy => by
     obtain ⟨v, g1, g2⟩ := hv (i + 1) y hy
     exact ⟨v, by rw [List.getElem?_drop, Nat.add_comm]; exact g1, g2.later l1 (fun _ _ h => h)⟩)
    rw [putOs_app]
    refine ⟨H2, l1.trans l3 (Nat.le_refl _), by simp [hlen], fun i q hq => ?_⟩
    cases i with
    | zero => cases hq; exact ⟨u, hu, hk.later l3⟩
    | succ i =>
     obtain ⟨v, g1, g2⟩ := hrest i q hq
     exact ⟨v, by rw [List.getElem?_drop, Nat.add_comm] at g1; exact g1, g2⟩
   ·cases hc
  ·cases hc
end
theorem makeFuncO_ok {P : Program} {o : Oper} {fn : Go.Fn} {first caps : Array Operand} (hop : o.op = .makeFunc fn first caps) {t : List TV} {h : List Ob} {id : Nat} {K : OpK} (he : evMakeFuncO t fn first.toList caps.toList h K) :
  ∃ v wr rd, K v wr rd ∧ OpOK P o t h id v wr rd := by
 unfold evMakeFuncO at he
 split at he
 ·rename_i f cs wr rd h0 h2
  refine ⟨_, _, _, he, fun ext w0 own0 t' h' a w Q hlen hag hrd hf R => ?_⟩
  obtain ⟨locs, H, RTm⟩ := R.repT
  have hfirst : first = #[] := Array.ext' (by simpa using h0)
  subst hfirst
  have hops : ∀ x ∈ caps, ev t' x = ev t x := fun x hx => hag x (by rw [hop]; simpa [Op.operands] using hx)
  obtain ⟨H1, lt, hl, hk⟩ := capTs_ok _ H h2 hrd (caps.toList.map a.eval) (fun i x hx => by
   simp only [List.getElem?_map, Option.map_eq_some_iff] at hx ⊢
   obtain ⟨y, hy, rfl⟩ := hx
   refine ⟨a.eval y, ⟨y, hy, rfl⟩, ?_⟩
   rw [← hops y (by simpa using List.mem_of_getElem? hy)]
   exact ev_rep RTm y)
  have hex : ∀ i : Nat, ∃ vs : List Value, ∀ (b : Bool) (l : List FV), cs[i]? = some (b, l) → (caps.toList.map a.eval)[i]? = some (mkV b vs) ∧ vs.length = l.length ∧ ∀ (j : Nat) (x : FV), l[j]? = some x → ∃ v, vs[j]? = some v ∧ RF w (Bar ext locs (putOs h' wr)) x v := by
   intro i
   cases hc : cs[i]? with
   | none => exact ⟨[], fun b l e => by cases e⟩
   | some p =>
    obtain ⟨u, h5, vs, h6, h7, h8⟩ := hk i p hc
    exact ⟨vs, fun b' l' e => by cases e; exact ⟨by rw [h5, h6], h7, h8⟩⟩
  obtain ⟨vs, hvs⟩ := Classical.axiomOfChoice hex
  refine wp_value (v := .func (.func f) #[] (caps.map a.eval)) (w' := w) (by unfold execOp; rw [hop]; simp [Instr.makeFunc]) ?_
  refine Rep.mkput R RTm H1 lt (fun _ _ h => h) o.dst _ _ ?_
  refine RF.fn f cs vs (caps.map a.eval) (by simpa using hl.symm) (fun i b l hi => ?_) (fun i b l j x v hi hx hv => ?_)
  ·obtain ⟨h5, h6, _⟩ := hvs i b l hi
   exact ⟨h6, by simpa using h5⟩
  ·obtain ⟨_, _, h7⟩ := hvs i b l hi
   obtain ⟨v', hv', hr'⟩ := h7 j x hx
   rw [hv] at hv'
   cases hv'
   exact hr'
 ·exact he.elim
end
section
abbrev XK := FV → List Nat → Prop
theorem shH_len (h : List Ob) : (shH h).length = h.length := by simp [shH]
theorem shH_get (h : List Ob) (o : Nat) : (shH h)[o]? = (h[o]?).map shO := by simp [shH]
theorem shO_idem (ob : Ob) : shO (shO ob) = shO ob := by cases ob <;> simp [shO]
theorem shO_bk (ids : List Nat) (id : Nat) (ob : Ob) : shO (bkO ids id ob) = shO ob := by cases ob <;> simp [shO, bkO]
theorem shO_re (ids : List Nat) (ob : Ob) : shO (reO ids ob) = shO ob := by
 cases ob with
 | r s et sz es n fo =>
  cases fo with
  | none => rfl
  | some p => obtain ⟨i, j, o⟩ := p; simp only [reO]; cases idxO ids o <;> rfl
 | g gt cs => simp [shO, reO]
 | _ => rfl
theorem shO_live {ob : Ob} (h : (shO ob).live = true) : ∃ gt cs, ob = .g gt cs := by
 cases ob <;> first | exact ⟨_, _, rfl⟩ | cases h
section
variable {P : Program} {ext : Nat → Prop} {w0 : World} {own0 : Own0} {locs : Locs} {h h' : List Ob} {w w' : World}
theorem sh_live (o : Nat) (ob : Ob) (ho : (shH h)[o]? = some ob) (hl : ob.live = true) : ∃ gt cs, h[o]? = some (.g gt cs) ∧ ob = .g gt (cs.map fun _ => .und) := by
 rw [shH_get, Option.map_eq_some_iff] at ho
 obtain ⟨ob0, h1, rfl⟩ := ho
 obtain ⟨gt, cs, rfl⟩ := shO_live hl
 exact ⟨gt, cs, h1, rfl⟩
theorem sh_own (b : Nat) (hb : ownB locs (shH h) b) : ownB locs h b := by
 obtain ⟨o, l, d, ob, h1, h2, h3, h4, h5⟩ := hb
 obtain ⟨gt, cs, h6, _⟩ := sh_live o ob h1 h2
 exact ⟨o, l, d, _, h6, rfl, h3, h4, h5⟩
theorem RepH.sh (H : RepH P ext w0 own0 locs h w) : RepH P ext w0 own0 locs (shH h) w ∧ Later w (Bar ext locs h) w (Bar ext locs (shH h)) := by
 have lt : Later w (Bar ext locs h) w (Bar ext locs (shH h)) := ⟨fun _ _ _ => rfl, fun b _ hb => hb.elim .inl (fun hb => .inr (sh_own b hb))⟩
 refine ⟨⟨fun o ho => H.len o (by rw [shH_len] at ho; exact ho), fun o ob ho => ?_, fun o o' l l' ob ob' d d' hne ho ho' hlv hlv' hl hl' hd hd' => ?_, fun b hb ho => H.extOwn b hb (sh_own b ho), H.extlt, fun b hb ho => H.ownOld b hb (sh_own b ho), H.since, H.base, H.pins, H.ownlt⟩, lt⟩
 ·rw [shH_get, Option.map_eq_some_iff] at ho
  obtain ⟨ob0, h1, rfl⟩ := ho
  cases ob0 with
  | g gt cs =>
   obtain ⟨l, hl, hr⟩ := H.get h1 (by simp) (by simp)
   obtain ⟨i1, b, c, i2, i3, i4, i5⟩ := hr
   refine .inr (.inr ⟨l, hl, ⟨by simpa using i1.1, i1.2⟩, b, c, i2, i3, by simpa using i4, fun j x hx => ?_⟩)
   simp only [List.getElem?_map, Option.map_eq_some_iff] at hx
   obtain ⟨y, hy, rfl⟩ := hx
   obtain ⟨v, hv, _⟩ := i5 j y hy
   exact ⟨v, hv, trivial⟩
  | _ => exact .inl rfl
 ·obtain ⟨gt, cs, h1, _⟩ := sh_live o ob ho hlv
  obtain ⟨gt', cs', h1', _⟩ := sh_live o' ob' ho' hlv'
  exact H.apart o o' l l' _ _ d d' hne h1 h1' rfl rfl hl hl' hd hd'
theorem shH_putOs : ∀ (wr : List (Nat × Ob)) (h : List Ob), (∀ p ∈ wr, p.1 < h.length ∧ (shH h)[p.1]? = some (shO p.2)) → shH (putOs h wr) = shH h
 | [], h, _ => rfl
 | (o, ob) :: r, h, hk => by
  obtain ⟨h1, h2⟩ := hk (o, ob) (by simp)
  have hp : putO h o ob = h.set o ob := by simp [putO, show o < h.length from h1]
  have he : shH (h.set o ob) = shH h := by
   apply List.ext_getElem?
   intro i
   rw [shH_get, List.getElem?_set]
   by_cases e : o = i
   ·subst e
    rw [if_pos rfl, if_pos (show o < h.length from h1)]
    exact h2.symm
   ·rw [if_neg e, shH_get]
  simp only [putOs, hp]
  rw [shH_putOs r (h.set o ob) (fun p hp' => by rw [he, List.length_set]; exact hk p (by simp [hp'])), he]
theorem zs_sh : ∀ (rd : List Nat) (h : List Ob), ∀ p ∈ zs h rd, p.1 < h.length ∧ (shH h)[p.1]? = some (shO p.2)
 | [], h, p, hp => by cases hp
 | o :: r, h, p, hp => by
  unfold zs at hp
  split at hp
  ·rename_i z hg
   have ho : h[o]? = some (getO h o) := getO_some rfl (frzOb_ne hg).1
   have hlt : o < h.length := (List.getElem?_eq_some_iff.1 ho).1
   have hsz : shO (getO h o) = shO z := by
    obtain ⟨sz, es, rfl, ⟨et, e⟩ | ⟨s, et, n, e⟩⟩ := frzOb_some hg <;> rw [e] <;> rfl
   have he : shH (h.set o z) = shH h := by
    apply List.ext_getElem?
    intro i
    rw [shH_get, List.getElem?_set]
    by_cases e : o = i
    ·subst e
     rw [if_pos rfl, if_pos hlt, shH_get, ho, Option.map_some, Option.map_some, hsz]
    ·rw [if_neg e, shH_get]
   cases hp with
   | head => exact ⟨hlt, by rw [shH_get, ho, Option.map_some, hsz]⟩
   | tail _ hp =>
    have := zs_sh r _ p hp
    rw [he, List.length_set] at this
    exact this
  ·exact zs_sh r h p hp
def OpX (P : Program) (o : Oper) (t : List TV) (h : List Ob) (x : FV) (rd : List Nat) : Prop :=
 ∀ (ext : Nat → Prop) (w0 : World) (own0 : Own0) (t' : List TV) (h' : List Ob) (a : Act) (w : World) (K : Act → World → Prop) (Q : Exit → Act → World → Prop),
  t'.length = t.length → (∀ y ∈ o.op.operands, ev t' y = ev t y) → (∀ i ∈ rd, h'[i]? = h[i]?) → Rep P ext w0 own0 ⟨t', h'⟩ a w →
  (∀ v w', Rep P ext w0 own0 ⟨t' ++ [.one (.fz x)], shH h'⟩ { a with tmps := a.tmps.push v } w' → Q (.panic [{ v, recovered := false }]) a w') → o.wp P a w K Q
theorem Rep.mkx {t : List TV} {a : Act} {locs' : Locs} (R : Rep P ext w0 own0 ⟨t, h⟩ a w) (RTm : RepT w (Bar ext locs h) locs t a) (H' : RepH P ext w0 own0 locs' h' w') (lt : Later w (Bar ext locs h) w' (Bar ext locs' h'))
  (hl : ∀ (o : Nat) (x : Loc), locs o = some x → locs' o = some x) {x : TV} {v : Value} (hv : RT w' (Bar ext locs' h') locs' x v) : Rep P ext w0 own0 ⟨t ++ [x], h'⟩ { a with tmps := a.tmps.push v } w' := by
 have hs : a.tmps.size = t.length := R.size
 refine ⟨R.defers, by simp [hs], locs', H', fun i y hy => ?_⟩
 by_cases hi : i < t.length
 ·simp only at hy
  rw [List.getElem?_append_left hi] at hy
  obtain ⟨u, hu, hr⟩ := RTm i y hy
  refine ⟨u, ?_, hr.later lt hl⟩
  simp only
  rw [Array.getElem?_push, if_neg (by omega)]
  exact hu
 ·simp only at hy
  rw [List.getElem?_append_right (by omega)] at hy
  have hi0 : i - t.length = 0 := by
   rcases Nat.eq_zero_or_pos (i - t.length) with h' | h'
   ·exact h'
   ·rw [List.getElem?_eq_none (by simp; omega)] at hy; cases hy
  rw [hi0] at hy
  cases hy
  refine ⟨v, ?_, hv⟩
  simp only
  rw [Array.getElem?_push, if_pos (by omega)]
theorem wp_enterX {o : Oper} {a : Act} {g : FuncId} {vals : Array Value} {K : Act → World → Prop} {Q : Exit → Act → World → Prop} (h : (execOp a.eval o).run P w = .ok (.enter g vals) w)
  (hk : Calls P g vals w fun e w' => ∃ v, isPan e v ∧ Q (.panic [{ v, recovered := false }]) a w') : o.wp P a w K Q := by
 unfold Oper.wp
 rw [h]
 exact hk.mono fun e w' ⟨v, he, hkv⟩ => by cases he; exact hkv
end
def evPanic (x : TV) (KX : XK) : Prop :=
 match x with
 | .one (.fz (.ifv t b cs)) => KX (.ifv t b cs) []
 | _ => False
theorem panic_ok {P : Program} {o : Oper} {x : Operand} (hop : o.op = .panic x) {t : List TV} {h : List Ob} {KX : XK} (he : evPanic (ev t x) KX) : ∃ y rd, KX y rd ∧ OpX P o t h y rd := by
 unfold evPanic at he
 split at he
 ·rename_i ty b cs hx
  refine ⟨_, _, he, fun ext w0 own0 t' h' a w K Q hlen hag hrd R hQ => ?_⟩
  obtain ⟨locs, H, RTm⟩ := R.repT
  obtain ⟨H1, lt⟩ := H.sh
  have hr := ev_rep RTm x
  rw [hag x (by rw [hop]; simp [Op.operands]), hx] at hr
  generalize hq : a.eval x = q at hr
  have hr0 : RF w (Bar ext locs h') (.ifv ty b cs) q := hr
  cases hr with
  | ifv t b cs vs hl h1 hr =>
   unfold Oper.wp execOp
   rw [hop]
   simp only [hq]
   have : (do pure (Next.value (← Instr.panic (.iface ty (mkV b vs)))) : Sem Next).run P w = .halt (.panic (.iface ty (mkV b vs))) w := by
    simp [Instr.panic, goPanic, Sem.run, bind, Sem.bind]
   show o.upon P a K Q ((do pure (Next.value (← Instr.panic (.iface ty (mkV b vs)))) : Sem Next).run P w)
   rw [this]
   exact hQ _ _ (Rep.mkx R RTm H1 lt (fun _ _ h => h) (hr0.later lt))
 ·exact he.elim
def evCallX (P : Program) (ss : List Sig) (g : FuncId) (args : List TV) (h : List Ob) (KX : XK) : Prop :=
 match P.funcs[g]? with
 | some fn =>
  if fn.body.isSome = true ∧ (fn.name == "runtime.NumGoroutine") = false then
   match shareArgs h (shOf ss) (argsK P fn.params.toList args) with
   | some (ags, rd) =>
    let ids := idsH h 64 0 (idsT ags [])
    if ids.Nodup ∧ (ids.all fun o => okOb (getO h o) && !rd.contains o) = true then
     ∃ x : FV, FnX P g (ags.map (reT ids)) (ids.map fun o => reO ids (getO h o)) x ∧ KX x (ids ++ rd)
    else False
   | none => False
  else False
 | none => False
theorem callX_ok {P : Program} {o : Oper} {fo : Operand} {args argTypes : _} (hop : o.op = .call { callee := .value fo, args := args, argTypes := argTypes }) {t : List TV} {h : List Ob} {ss : List Sig} {g : FuncId} {caps : List (Bool × List FV)} {KX : XK}
  (hfo : ev t fo = .one (.fz (.fn g caps))) (he : evCallX P ss g (args.toList.map (ev t) ++ caps.map capT) h KX) : ∃ y rd, KX y rd ∧ OpX P o t h y rd := by
 unfold evCallX at he
 split at he
 ·rename_i fn hfn
  split at he
  ·rename_i hc
   obtain ⟨hb, hnm⟩ := hc
   split at he
   ·rename_i ags rd hs
    simp only at he
    split at he
    ·rename_i hcond
     obtain ⟨hn, hok⟩ := hcond
     obtain ⟨x, F, hk⟩ := he
     refine ⟨_, _, hk, fun ext w0 own0 t' h' a w K Q hlen hag hrd R hQ => ?_⟩
     generalize idsH h 64 0 (idsT ags []) = ids at *
     obtain ⟨locs, H, RTm⟩ := R.repT
     obtain ⟨vals, hrun, hvs, hvr⟩ := call_vals hop hfo hfn hb hnm hag RTm fn.params.toList
     have hids : ∀ q ∈ ids, h'[q]? = h[q]? := fun q hq => hrd q (List.mem_append_left _ hq)
     have hrd' : ∀ q ∈ rd, h'[q]? = h[q]? := fun q hq => hrd q (List.mem_append_right _ hq)
     have hs' := shareArgs_congr hs hrd'
     have hmap : (ids.map fun o => reO ids (getO h o)) = ids.map fun o => reO ids (getO h' o) := List.map_congr_left fun q hq => by rw [getO_congr (hids q hq)]
     rw [hmap] at F
     have hok' : (ids.all fun o => okOb (getO h' o) && !rd.contains o) = true := by
      rw [List.all_eq_true] at hok ⊢
      intro q hq
      rw [getO_congr (hids q hq)]
      exact hok q hq
     have hlt : ∀ q ∈ ids, q < h'.length ∧ h'[q]? = some (getO h' q) := fun q hq => by
      have h1 := List.all_eq_true.1 hok' q hq
      simp only [Bool.and_eq_true] at h1
      have h2 := getO_some (h := h') (o := q) rfl (by rintro e; rw [e] at h1; cases h1.1)
      exact ⟨(List.getElem?_eq_some_iff.1 h2).1, h2⟩
     refine wp_enterX hrun ((callS_core (C := Calls P g) (E := isPan) (l := [(false, [.fz x])]) (id := h'.length) (fun _ _ _ _ hr hc => Calls.mono hc hr) H hs' hn hok' (obs := shH (ids.map fun o => reO ids (getO h' o))) (fun ob hm => ?_) (by rw [shH_len, List.length_map]; exact Nat.le_refl _) (Nat.le_refl _)
      (fun j hj => by rw [shH_len, List.length_map] at hj; omega) F hvs hvr).mono fun e w' ⟨v, locs', he, H', lt, hlo, hRT⟩ => ⟨v, he, ?_⟩)
     ·simp only [shH, List.mem_map] at hm
      obtain ⟨ob0, _, rfl⟩ := hm
      cases ob0 <;> simp [shO]
     ·obtain ⟨H2, lt2⟩ := H'.sh
      have he : shH (putOs h' (zs h' rd ++ backW ids h'.length 0 (shH (ids.map fun o => reO ids (getO h' o))))) = shH h' := by
       refine shH_putOs _ _ fun p hp => ?_
       rcases List.mem_append.1 hp with hp | hp
       ·exact zs_sh rd h' p hp
       ·obtain ⟨q, ob⟩ := p
        obtain ⟨k, ob0, h1, h2, h3⟩ := backW_mem.1 hp
        rw [shH_get, Option.map_eq_some_iff] at h2
        obtain ⟨ob1, h4, rfl⟩ := h2
        simp only [List.getElem?_map, Option.map_eq_some_iff] at h4
        obtain ⟨q1, h5, rfl⟩ := h4
        have hq : q = q1 := by rw [← h1]; simp [bkN, h5]
        subst hq
        obtain ⟨h6, h7⟩ := hlt q (List.mem_of_getElem? h5)
        refine ⟨h6, ?_⟩
        simp only
        rw [h3, shO_bk, shO_idem, shO_re, shH_get, h7]
        rfl
      have hbar : ∀ b, Bar ext locs' (shH h') b → Bar ext locs' (putOs h' (zs h' rd ++ backW ids h'.length 0 (shH (ids.map fun o => reO ids (getO h' o))))) b := fun b hb => by
       rw [← he] at hb
       exact hb.elim .inl (fun x => .inr (sh_own b x))
      rw [he] at H2 lt2
      have hx : RT w' (Bar ext locs' (putOs h' (zs h' rd ++ backW ids h'.length 0 (shH (ids.map fun o => reO ids (getO h' o)))))) locs' (.one (.fz x)) v := hRT
      exact hQ v w' (Rep.mkx R RTm H2 ⟨lt.same, fun b hb hB => lt.bar b hb (hbar b hB)⟩ hlo (hx.later lt2 (fun _ _ h => h)))
    ·exact he.elim
   ·exact he.elim
  ·exact he.elim
 ·exact he.elim
def evIfc (P : Program) (ty : TypeId) (x : TV) (K : OpK) : Prop :=
 if isTy P ty (fun | .interface _ => false | _ => true) = true then
  match frzT x with
  | some (b, l) => K (.one (.fz (.ifv ty b l))) [] []
  | none => False
 else False
theorem ifc_ok {P : Program} {o : Oper} {ty : TypeId} {x : Operand} (hop : o.op = .makeInterface ty x) {t : List TV} {h : List Ob} {id : Nat} {K : OpK} (he : evIfc P ty (ev t x) K) : ∃ v wr rd, K v wr rd ∧ OpOK P o t h id v wr rd := by
 unfold evIfc at he
 split at he
 ·rename_i hty
  obtain ⟨d, hd, hf⟩ := isTy_ok hty
  split at he
  ·rename_i b l hx
   refine ⟨_, _, _, he, fun ext w0 own0 t' h' a w Q hlen hag hrd hf' R => ?_⟩
   obtain ⟨locs, H, RTm⟩ := R.repT
   have hr := ev_rep RTm x
   rw [hag x (by rw [hop]; simp [Op.operands])] at hr
   obtain ⟨vs, h1, h2, h3, h4⟩ := frzT_ok hx hr
   refine wp_value (v := .iface ty (mkV b vs)) (w' := w) ?_ (Rep.mkput R RTm H (Later.refl _ _) (fun _ _ h => h) o.dst _ _ (RF.ifv ty b l vs h2 h3 fun j y v hy hv => ?_))
   ·unfold execOp
    rw [hop]
    simp only [h1]
    cases d <;> first | (cases hf; done) | simp [Instr.makeInterface, run_underlying hd]
   ·obtain ⟨u, hu, hra⟩ := h4 j y hy
    rw [hv] at hu; cases hu
    exact hra
  ·exact he.elim
 ·exact he.elim
def evAssert (P : Program) (x : TV) (ty : TypeId) (ok : Bool) (K : OpK) : Prop :=
 match x with
 | .one (.fz (.ifv u b l)) => if ok = true ∧ u = ty ∧ isTy P ty (fun | .interface _ => false | _ => true) = true then K (.tup [(b, l.map .fz), (false, [.kb true])]) [] [] else False
 | _ => False
theorem assert_ok {P : Program} {o : Oper} {ty xty : TypeId} {ok : Bool} {x : Operand} (hop : o.op = .typeAssert x xty ty ok) {t : List TV} {h : List Ob} {id : Nat} {K : OpK} (he : evAssert P (ev t x) ty ok K) : ∃ v wr rd, K v wr rd ∧ OpOK P o t h id v wr rd := by
 unfold evAssert at he
 split at he
 ·rename_i u b l hx
  split at he
  ·rename_i hc
   obtain ⟨rfl, rfl, hty⟩ := hc
   obtain ⟨d, hd, hf⟩ := isTy_ok hty
   refine ⟨_, _, _, he, fun ext w0 own0 t' h' a w Q hlen hag hrd hf' R => ?_⟩
   obtain ⟨locs, H, RTm⟩ := R.repT
   have hr := ev_rep RTm x
   rw [hag x (by rw [hop]; simp [Op.operands]), hx] at hr
   generalize hq : a.eval x = q at hr
   cases hr with
   | ifv t b cs vs hl h1 hr =>
    refine wp_value (v := .tuple #[mkV b vs, .bool true]) (w' := w) ?_ (Rep.mkput R RTm H (Later.refl _ _) (fun _ _ h => h) o.dst _ _ ⟨#[mkV b vs, .bool true], rfl, rfl, fun i b' cs' hi => ?_⟩)
    ·unfold execOp
     rw [hop]
     simp only [hq]
     cases d <;> first | (cases hf; done) | simp [Instr.typeAssert, run_underlying hd]
    ·match i, hi with
     | 0, hi =>
      cases hi
      refine ⟨_, rfl, vs, rfl, by simp [hl], h1, fun j y hy => ?_⟩
      obtain ⟨z, hz, rfl⟩ := map_fz hy
      have hj : j < vs.length := by rw [hl]; exact (List.getElem?_eq_some_iff.1 hz).1
      exact ⟨vs[j], List.getElem?_eq_getElem hj, hr j z _ hz (List.getElem?_eq_getElem hj)⟩
     | 1, hi =>
      cases hi
      refine ⟨_, rfl, [.bool true], rfl, rfl, fun _ => rfl, fun j y hy => ?_⟩
      cases j with
      | zero => cases hy; exact ⟨_, rfl, rfl⟩
      | succ j => simp at hy
     | i + 2, hi => simp at hi
  ·exact he.elim
 ·exact he.elim
end
section
def seqZ (P : Program) (e : TypeId) (t : List TV) (h : List Ob) : Nat → List (Nat × Operand) → Option (List (List FV) × List Nat)
 | _, [] => some ([], [])
 | k, (i, x) :: r =>
  if i = k then
   match cellsT (ev t x) with
   | some cs =>
    if cs.length = P.cellsOf e then
     match frzAs h (fixN (kinds P e) cs) with
     | some (fs, rd) => match seqZ P e t h (k + 1) r with
      | some (l, rd') => some (fs :: l, rd ++ rd')
      | none => none
     | none => none
    else none
   | none => none
  else none
def evBuildSliceZ (P : Program) (ty : TypeId) (len : Nat) (t : List TV) (parts : List (Nat × Operand)) (h : List Ob) (id : Nat) (K : OpK) : Prop :=
 match P.underlying ty with
 | some (.slice e) =>
  match seqZ P e t h 0 parts, zeroA P e with
  | some (es, rd), some _ => if parts.length = len ∧ len * P.cellsOf e ≤ 16777216 ∧ (P.underlying e).isSome = true then K (.one (.ofl (P.cellsOf e) id)) (zs h rd ++ [(id, .f e (P.cellsOf e) es)]) rd else False
  | _, _ => False
 | _ => False
theorem seqZ_congr {P : Program} {e : TypeId} {t t' : List TV} {h h' : List Ob} : ∀ (ps : List (Nat × Operand)) (k : Nat) {es : List (List FV)} {rd : List Nat}, (∀ x ∈ ps.map (·.2), ev t' x = ev t x) → seqZ P e t h k ps = some (es, rd) → (∀ q ∈ rd, h'[q]? = h[q]?) → seqZ P e t' h' k ps = some (es, rd)
 | [], _, _, _, _, hs, _ => hs
 | (i, x) :: r, k, es, rd, hx, hs, hq => by
  unfold seqZ at hs ⊢
  rw [hx x (by simp)]
  split at hs
  ·rename_i hn
   rw [if_pos hn]
   split at hs
   ·rename_i cs hcs
    split at hs
    ·rename_i hcl
     rw [if_pos hcl]
     split at hs
     ·rename_i fs rd1 hfs
      split at hs
      ·rename_i l rd2 hl
       cases hs
       rw [frzAs_congr hfs (fun q hm => hq q (by simp [hm])), seqZ_congr r (k + 1) (fun y hy => hx y (by simp [hy])) hl (fun q hm => hq q (by simp [hm]))]
      ·cases hs
     ·cases hs
    ·cases hs
   ·cases hs
  ·cases hs
theorem seqZ_ok {P : Program} {e : TypeId} {ext : Nat → Prop} {w0 : World} {own0 : Own0} {locs : Locs} {h : List Ob} {w : World} (H : RepH P ext w0 own0 locs h w) {t : List TV} {a : Act} (hr : ∀ x : Operand, RT w (Bar ext locs h) locs (ev t x) (a.eval x)) {rd : List Nat} :
  ∀ {parts : List (Nat × Operand)} {k : Nat} {es : List (List FV)} {q : List Nat}, seqZ P e t h k parts = some (es, q) → (∀ o ∈ q, o ∈ rd) →
  es.length = parts.length ∧ ∀ (i : Nat) (p : Nat × Operand), parts[i]? = some p → p.1 = k + i ∧ (a.eval p.2).cells.size = P.cellsOf e ∧ ∃ el, es[i]? = some el ∧ el.length = P.cellsOf e ∧ ∀ (j : Nat) (x : FV), el[j]? = some x → ∃ u, (a.eval p.2).cells[j]? = some u ∧ RF w (Bar ext locs (putOs h (zs h rd))) x u
 | [], k, es, q, hs, _ => by cases hs; exact ⟨rfl, by simp⟩
 | (n, x) :: r, k, es, q, hs, hq => by
  unfold seqZ at hs
  split at hs
  ·rename_i hn
   split at hs
   ·rename_i cs hcs
    split at hs
    ·rename_i hcl
     split at hs
     ·rename_i fs rd1 hfs
      split at hs
      ·rename_i l rd2 hl
       cases hs
       obtain ⟨h1, h2⟩ := seqZ_ok H hr hl (fun o ho => hq o (by simp [ho]))
       refine ⟨by simp [h1], fun i p hi => ?_⟩
       cases i with
       | zero =>
        cases hi
        have hc := cellsT_ok hcs (hr x)
        have hc' := fix_reps (P := P) (ty := e) hc
        obtain ⟨h3, h4⟩ := frzAs_ok (rd := rd) H hfs (fun o ho => hq o (by simp [ho]))
        refine ⟨by simpa using hn, by rw [hc.1, hcl], fs, rfl, by rw [h3, ← hc'.1, hc.1, hcl], fun j y hy => ?_⟩
        obtain ⟨u, hu, hra⟩ := h4 (a.eval x).cells.toList (fun j y hy => by obtain ⟨u, hu, hra⟩ := hc'.2 j y hy; exact ⟨u, by simpa using hu, hra⟩) j y hy
        exact ⟨u, by simpa using hu, hra⟩
       | succ i =>
        obtain ⟨h3, h4⟩ := h2 i p hi
        exact ⟨by omega, h4⟩
      ·cases hs
     ·cases hs
    ·cases hs
   ·cases hs
  ·cases hs
theorem zs_fresh {h : List Ob} {id : Nat} : ∀ (rd : List Nat) {h : List Ob}, h[id]? = some .rs → (putOs h (zs h rd))[id]? = some .rs := by
 intro rd
 induction rd with
 | nil => intro h hh; exact hh
 | cons o r ih =>
  intro h hh
  unfold zs
  split
  ·rename_i z hg
   have ho : h[o]? = some (getO h o) := getO_some rfl (frzOb_ne hg).1
   simp only [putOs, putO_lt ho]
   refine ih ?_
   rw [set_get ho, if_neg (by rintro rfl; rw [ho] at hh; exact (frzOb_ne hg).2 (Option.some.inj hh))]
   exact hh
  ·exact ih hh
theorem buildSliceZ_ok {P : Program} {o : Oper} {ty : TypeId} {len : Nat} {parts : Array (Nat × Operand)} (hop : o.op = .buildSlice ty len parts) {t : List TV} {h : List Ob} {id : Nat} {K : OpK} (he : evBuildSliceZ P ty len t parts.toList h id K) :
  ∃ v wr rd, K v wr rd ∧ OpOK P o t h id v wr rd := by
 unfold evBuildSliceZ at he
 split at he
 ·rename_i e ht
  split at he
  ·rename_i es rd z hes hz
   split at he
   ·rename_i hcond
    obtain ⟨hpl, hbig, hie⟩ := hcond
    obtain ⟨d, hd⟩ := Option.isSome_iff_exists.1 hie
    obtain ⟨it, zv, hi, hzv, hzr⟩ := zeroA_ok hz
    refine ⟨_, _, _, he, fun ext w0 own0 t' h' a w Q hlen hag hrd hf R => ?_⟩
    obtain ⟨locs, H, RTm⟩ := R.repT
    have hes' : seqZ P e t' h' 0 parts.toList = some (es, rd) := seqZ_congr parts.toList 0 (fun x hx => hag x (by rw [hop]; simpa [Op.operands] using hx)) hes hrd
    obtain ⟨h1, h2⟩ := seqZ_ok H (fun x => ev_rep RTm x) hes' (fun _ h => h)
    obtain ⟨H1, lt1, hlen1, _⟩ := zs_ok rd H
    rw [← zs_congr rd hrd]
    have hf1 : freshO (putOs h' (zs h' rd)) id := hf.imp (fun e => by rw [hlen1]; exact e) (fun e => zs_fresh (h := h') rd e)
    have R1 : Rep P ext w0 own0 ⟨t', putOs h' (zs h' rd)⟩ a w := ⟨R.defers, R.size, locs, H1, fun i x hx => by
     obtain ⟨v, hv, hr⟩ := RTm i x hx
     exact ⟨v, hv, hr.later lt1 (fun _ _ h => h)⟩⟩
    have RT1 : RepT w (Bar ext locs (putOs h' (zs h' rd))) locs t' a := ⟨H1.tabRep, fun i x hx => by
     obtain ⟨v, hv, hr⟩ := RTm i x hx
     exact ⟨v, hv, hr.later lt1 (fun _ _ h => h)⟩⟩
    let base : Array Value := (Array.range (len * P.cellsOf e)).map fun k => ((if len * P.cellsOf e = 0 then #[] else zv.cells)[k % (if len * P.cellsOf e = 0 then #[] else zv.cells).size]!)
    have hbase : base.size = len * P.cellsOf e := by simp [base]
    obtain ⟨out, h3, h4, h5, h6⟩ := fill_seq (sz := P.cellsOf e) ((parts.map fun (i, x) => (i, a.eval x)).toList) 0 base (fun i p hp => by
     simp only [Array.toList_map, List.getElem?_map, Option.map_eq_some_iff] at hp
     obtain ⟨q, hq, rfl⟩ := hp
     obtain ⟨h7, h8, _⟩ := h2 i q hq
     exact ⟨by simpa using h7, h8⟩) (by rw [hbase]; simp [← hpl])
    refine wp_value (v := .slice (some ⟨w.heap.size, 0, none⟩) len len) (w' := w.alloc (.cells out e)) ?_ ?_
    ·unfold execOp; rw [hop]
     have hb : ¬ (len * P.cellsOf e > 2 ^ 24) := by omega
     have hb2 : ¬ (16777216 < len * P.cellsOf e) := by omega
     by_cases h0 : len * P.cellsOf e = 0
     ·have e3 := h3
      simp only [base, h0, if_true] at e3
      simp only [Instr.buildSlice, Sem.run_bind, run_underlying ht, Result.andThen, run_sizeOf hd]
      simp [h0, newRow] at e3 ⊢
      simp [e3]
     ·have e3 := h3
      simp only [base, h0, if_false] at e3
      simp only [Instr.buildSlice, Sem.run_bind, run_underlying ht, Result.andThen, run_sizeOf hd]
      simp [h0, hb2, newRow, zeroValue, typeInfo, hi, hzv] at e3 ⊢
      simp [e3]
    ·have := newrow_at R1 H1 RT1 hf1 (sz := P.cellsOf e) (es := es) (arr := out) (ty := e) (cap := len) (w' := w.alloc (.cells out e))
      (fun b hb => alloc_old w _ b hb) (by rw [alloc_size]; omega) (alloc_new w _) rfl rfl rfl (by rw [h1]; omega) (by rw [h4, hbase]; exact Nat.le_refl _) (fun i el hi => by
       have hil : i < parts.toList.length := by
        rcases Nat.lt_or_ge i es.length with h' | h'
        ·omega
        ·rw [List.getElem?_eq_none h'] at hi; cases hi
       obtain ⟨h7, h8, el', h9, h10, h11⟩ := h2 i parts.toList[i] (List.getElem?_eq_getElem _)
       rw [hi] at h9; cases h9
       refine ⟨h10, fun j x hx => ?_⟩
       have hj : j < P.cellsOf e := by
        rcases Nat.lt_or_ge j el.length with h' | h'
        ·omega
        ·rw [List.getElem?_eq_none h'] at hx; cases hx
       obtain ⟨u, hu, hr⟩ := h11 j x hx
       refine ⟨u, ?_, hr⟩
       have := h6 i (parts.toList[i].1, a.eval parts.toList[i].2) (by simp [List.getElem?_eq_getElem hil]) j hj
       rw [Nat.zero_add] at this
       rw [this]; exact hu) o.dst
     have hel : es.length = len := by rw [h1]; exact hpl
     rw [hel] at this
     rw [putOs_app]
     simpa [putOs] using this
   ·exact he.elim
  ·exact he.elim
 ·exact he.elim
def evStoreZ (P : Program) (ty : TypeId) (q e c : Nat) (vs0 : List AV) (h : List Ob) (K : OpK) : Prop :=
 match getO h q with
 | .f et sz es =>
  match frzAs h vs0 with
  | some (fs, rd) =>
   if P.underlying ty ≠ none ∧ vs0.length = P.cellsOf ty ∧ c = 0 ∧ fs.length = sz ∧ rd.all (fun o => !(Nat.beq o q)) = true then
    e < es.length ∧ K .und (zs h rd ++ [(q, .f et sz (es.set e fs))]) (q :: rd)
   else False
  | none => False
 | _ => False
def evStoreX (P : Program) (ty : TypeId) (p v : TV) (h : List Ob) (K : OpK) : Prop :=
 match p, cellsT v with
 | .one (.ptr o e c _), some vs0 =>
  match getO h o with
  | .f _ sz _ =>
   match frzL vs0 with
   | some _ => evStoreD P ty p v h K
   | none =>
    match momS h sz c vs0 with
    | 0 => evStoreZ P ty o e c vs0 h K
    | _ + 1 => evStoreD P ty p v h K
  | _ => evStoreD P ty p v h K
 | _, _ => False
def evConvZ (P : Program) (src dst : TypeId) (x : TV) (h : List Ob) (K : OpK) : Prop :=
 match P.underlying dst, x with
 | some (.slice e), .one (.ofl sz o) =>
  if src = dst ∧ isTy P e (fun | .int .u8 => true | _ => false) = true then
   match getO h o with
   | .f _ sz' es => if sz' = sz then 0 < es.length ∧ K (.one (.fz (.sl sz es))) [(o, .z sz es)] [o] else False
   | _ => False
  else False
 | _, _ => False
theorem convZ_ok {P : Program} {o : Oper} {src dst : TypeId} {x : Operand} (hop : o.op = .convert src dst x) {t : List TV} {h : List Ob} {id : Nat} {K : OpK} (he : evConvZ P src dst (ev t x) h K) :
  ∃ v wr rd, K v wr rd ∧ OpOK P o t h id v wr rd := by
 have hmem : x ∈ o.op.operands := by rw [hop]; simp [Op.operands]
 have hexec : ∀ a : Act, execOp a.eval o = (do let v ← convert src dst (a.eval x); pure (.value v)) := fun a => by unfold execOp; rw [hop]
 unfold evConvZ at he
 split at he
 ·rename_i e sz q ht hx
  split at he
  ·rename_i hc
   obtain ⟨rfl, hu8⟩ := hc
   have hu := isU8 hu8
   split at he
   ·rename_i et sz' es hg
    split at he
    ·rename_i hc2
     subst hc2
     obtain ⟨hpos, he⟩ := he
     refine ⟨_, _, _, he, fun ext w0 own0 t' h' a w Q hlen hag hrd _ R => ?_⟩
     obtain ⟨locs, H, RTm⟩ := R.repT
     have hq : h'[q]? = some (.f et sz' es) := (hrd q (by simp)).trans (getO_some hg (by simp))
     obtain ⟨l, hl, hob⟩ := H.get hq (by simp) (by simp)
     have hp := ev_rep RTm x
     rw [hag x hmem, hx] at hp
     have hob0 := hob
     obtain ⟨hs, hln, hlay⟩ := hob
     rcases hlay with ⟨h0, _⟩ | ⟨b, off, cc, ty', hla, hheap, het, hsz, hcap, hcell⟩
     ·rw [h0] at hpos; simp at hpos
     ·obtain ⟨H1, _⟩ := H.frz hq
      have hz : (h'.set q (.z sz' es))[q]? = some (.z sz' es) := by rw [set_get hq, if_pos rfl]
      obtain ⟨l2, hl2, _, _, hlay2⟩ := H1.get hz (by simp) (by simp)
      rw [hl] at hl2; cases hl2
      obtain ⟨l3, a1, c, g1, g2, hv, g3, g4, g5⟩ := hp
      rw [hl] at g1; cases g1
      rw [hln] at g3 hv
      have ha1 : a1 = some ⟨b, off, none⟩ := by
       rcases g5 with g5 | g5
       ·omega
       ·rw [g5, hla]
      subst ha1
      let w' : World := w.freeze ⟨b, cc.size, none⟩ 1
      have hoth : ∀ k, k ≠ b → w'.heap[k]? = w.heap[k]? := fun k hk => by
       simp only [w', World.freeze]
       rw [if_neg (by omega)]
       simp only [Array.getElem?_modify]
       rw [if_neg (by omega)]
      have hnew : w'.heap[b]? = some (.cells cc ty' (cc.size, cc.size + 1)) := by
       simp only [w', World.freeze]
       rw [if_neg (by omega)]
       simp only [Array.getElem?_modify]
       rw [if_pos trivial, hheap]
       rfl
      have hsize : w'.heap.size = w.heap.size := by
       simp only [w', World.freeze]
       rw [if_neg (by omega)]
       simp only [Array.size_modify]
      obtain ⟨H', lt⟩ := H.upd (w' := w') (ob := .z sz' es) hq rfl hl hla (fun k _ hne => hoth k hne) (by rw [hsize]; exact Nat.le_refl _) rfl rfl rfl (fun lt => by
       refine ⟨hs, hln, .inr ⟨b, off, hla, fun i e he => ?_⟩⟩
       obtain ⟨h1, h2⟩ := hcell i e he
       refine ⟨h1, fun j y hy => ?_⟩
       obtain ⟨u, hu, hr⟩ := h2 j y hy
       rcases hlay2 with h0 | ⟨b2, off2, hla2, hc2⟩
       ·rw [h0] at hpos; simp at hpos
       ·rw [hla] at hla2; cases hla2
        obtain ⟨_, h4⟩ := hc2 i e he
        refine ⟨(h4 j y hy).1, u, ?_, hr.later lt⟩
        simp [World.cell?, hnew, hu])
      have hz' : (h'.set q (.z sz' es))[q]? = some (.z sz' es) := hz
      obtain ⟨l4, hl4, hob4⟩ := H'.get hz' (by simp) (by simp)
      rw [hl] at hl4; cases hl4
      have hres := z_row (P := P) (o := q) hl hob4 (v := .slice (some ⟨b, off, none⟩) es.length c) ⟨l, _, c, hl, hs, by rw [hln], by rw [hln]; exact g3, g4, .inr hla.symm⟩
      have hput : putOs h' [(q, .z sz' es)] = h'.set q (.z sz' es) := by simp only [putOs, putO_lt hq]
      refine wp_value (v := .slice (some ⟨b, off, none⟩) es.length c) (w' := w') ?_ (by rw [hput]; exact Rep.mkput R RTm H' lt (fun _ _ h => h) o.dst _ _ hres)
      rw [hexec, hv]
      have rs : ∀ (r : Nat) (w : World), (shape r).run P w = .ok (w.shape? r) w := fun _ _ => rfl
      have rf : ∀ (a : Addr) (n : Nat) (w : World), (freeze a n).run P w = .ok () (w.freeze a n) := fun _ _ _ => rfl
      have hshape : w.shape? b = some (ty', cc.size) := by
       unfold World.shape?
       rw [hheap]
      simp [convert, run_underlying ht, run_underlying hu, markStringish, rs, rf, hshape]
      rfl
    ·exact he.elim
   ·exact he.elim
  ·exact he.elim
 ·exact he.elim
end
section
def evCallGX (P : Program) (M : Mode) (dr : Bool) (fo : Operand) (args : List Operand) (t : List TV) (h : List Ob) (id : Nat) (K : OpK) (KX : XK) : Prop :=
 match ev t fo with
 | .one (.fz (.fn g caps)) =>
  match M.mp g with
  | true =>
   match M.mp (g + 1000000) with
   | true => evCallX P (M.sig g) g (args.map (ev t) ++ caps.map capT) h KX
   | false => evCallX P (M.sig g) g (args.map (ev t) ++ caps.map capT) h KX ∨ evCallG P M dr fo args t h id K
  | false => evCallG P M dr fo args t h id K
 | _ => False
def evBuildSliceY (P : Program) (ty : TypeId) (len : Nat) (t : List TV) (parts : List (Nat × Operand)) (h : List Ob) (id : Nat) (K : OpK) : Prop :=
 match P.underlying ty with
 | some (.slice e) =>
  match seqF P e t 0 parts with
  | some _ => evBuildSlice P ty len t parts id K
  | none => evBuildSliceZ P ty len t parts h id K
 | _ => False
theorem buildSliceY_ok {P : Program} {o : Oper} {ty : TypeId} {len : Nat} {parts : Array (Nat × Operand)} (hop : o.op = .buildSlice ty len parts) {t : List TV} {h : List Ob} {id : Nat} {K : OpK} (he : evBuildSliceY P ty len t parts.toList h id K) :
  ∃ v wr rd, K v wr rd ∧ OpOK P o t h id v wr rd := by
 unfold evBuildSliceY at he
 split at he
 ·split at he
  ·exact buildSlice_ok hop he
  ·exact buildSliceZ_ok hop he
 ·exact he.elim
def evOp (P : Program) (M : Mode) (dr : Bool) (o : Oper) (t : List TV) (h : List Ob) (id : Nat) (K : OpK) (KX : XK) : Prop :=
 match o.op with
 | .load ty x => evLoadD P ty (ev t x) h id K
 | .store ty p x => evStoreD P ty (ev t p) (ev t x) h K
 | .box ty x => evBox P ty (ev t x) id K
 | .alloc ty => evAlloc P ty id K
 | .makeFunc fn first caps => evMakeFuncO t fn first.toList caps.toList h K
 | .buildSlice ty n parts => evBuildSliceY P ty n t parts.toList h id K
 | .makeSlice ty l c => evMakeSlice P ty (ev t l) (ev t c) id K
 | .indexAddr ty x i =>
  match ev t x with
  | .one (.ofl _ _) => evIndexAddrD P ty (ev t x) (ev t i) h K
  | .one (.ptr _ _ _ _) => False
  | _ => evPure P o.op o.type t fun v => K v [] []
 | .slice ty x lo hi mx =>
  match ev t x with
  | .one (.ofl _ _) =>
   match bound t lo, bound t hi, bound t mx with
   | some l, some u, some m => evSliceO P ty (ev t x) l u m h id K
   | _, _, _ => False
  | .one (.ptr _ _ _ _) => False
  | _ => evPure P o.op o.type t fun v => K v [] []
 | .convert s d x =>
  match ev t x, P.underlying d with
  | .one (.ofl _ _), some (.slice _) => evConvZ P s d (ev t x) h K
  | .one (.ofl _ _), _ => evConvO P s d (ev t x) h K
  | .one (.fz (.str _)), some (.slice _) => evConvO P s d (ev t x) h K
  | _, _ => evPure P o.op o.type t fun v => K v [] []
 | .call { callee := .builtin .len, args, argTypes } =>
  match args.toList, argTypes.toList with
  | [x], [ty] =>
   match ev t x with
   | .one (.ofl _ _) => evLenD P ty (ev t x) h K
   | _ => evPure P o.op o.type t fun v => K v [] []
  | _, _ => False
 | .call { callee := .builtin .append, args, argTypes } =>
  match args.toList, argTypes.toList with
  | [s, x], [ty, ty2] =>
   match ev t x with
   | .one (.fz (.int _ _)) => evAppendZ P ty ty2 (ev t s) (ev t x) id K
   | _ => evAppend P ty ty2 (ev t s) (ev t x) h id K
  | _, _ => False
 | .call { callee := .value f, args, argTypes } => evCallGX P M dr f args.toList t h id K KX
 | .panic x => evPanic (ev t x) KX
 | .makeInterface ty x => evIfc P ty (ev t x) K
 | .typeAssert x _ ty ok => evAssert P (ev t x) ty ok K
 | _ => evPure P o.op o.type t fun v => K v [] []
theorem evOp_split {P : Program} {M : Mode} {dr : Bool} {o : Oper} {t : List TV} {h : List Ob} {id : Nat} {K : OpK} {KX : XK} (he : evOp P M dr o t h id K KX) :
  (∃ v wr rd, K v wr rd ∧ OpOK P o t h id v wr rd) ∨ (∃ fo args argTypes, o.op = .call { callee := .value fo, args := args, argTypes := argTypes } ∧ evCallG P M dr fo args.toList t h id K) ∨ (∃ x rd, KX x rd ∧ OpX P o t h x rd) := by
 have pure : evPure P o.op o.type t (fun v => K v [] []) → ∃ v wr rd, K v wr rd ∧ OpOK P o t h id v wr rd := fun he => by
  obtain ⟨v, hk, hv⟩ := pure_ok he h id
  exact ⟨v, [], [], hk, hv⟩
 unfold evOp at he
 split at he
 ·exact .inl (loadD_ok ‹_› he)
 ·exact .inl (storeD_ok ‹_› he)
 ·exact .inl (box_ok ‹_› he)
 ·exact .inl (alloc_ok ‹_› he)
 ·exact .inl (makeFuncO_ok ‹_› he)
 ·exact .inl (buildSliceY_ok ‹_› he)
 ·exact .inl (makeSlice_ok ‹_› he)
 ·split at he
  ·exact .inl (indexAddrD_ok ‹_› he)
  ·exact he.elim
  ·exact .inl (pure he)
 ·split at he
  ·split at he
   ·exact .inl (sliceO_ok ‹_› ‹_› ‹_› ‹_› he)
   ·exact he.elim
  ·exact he.elim
  ·exact .inl (pure he)
 ·split at he
  ·exact .inl (convZ_ok ‹_› he)
  ·exact .inl (convO_ok ‹_› he)
  ·exact .inl (convO_ok ‹_› he)
  ·exact .inl (pure he)
 ·rename_i args argTypes hop
  split at he
  ·rename_i x ty hx hty
   split at he
   ·have ea : args = #[x] := Array.ext' (by simpa using hx)
    have et : argTypes = #[ty] := Array.ext' (by simpa using hty)
    subst ea et
    exact .inl (lenD_ok hop he)
   ·exact .inl (pure he)
  ·exact he.elim
 ·rename_i args argTypes hop
  split at he
  ·rename_i s x ty ty2 hx hty
   have ea : args = #[s, x] := Array.ext' (by simpa using hx)
   have et : argTypes = #[ty, ty2] := Array.ext' (by simpa using hty)
   subst ea et
   split at he
   ·exact .inl (appendZ_ok hop he)
   ·exact .inl (append_ok hop he)
  ·exact he.elim
 ·rename_i fo args argTypes hop
  unfold evCallGX at he
  split at he
  ·rename_i g caps hfo
   split at he
   ·split at he
    ·exact .inr (.inr (callX_ok hop hfo he))
    ·rcases he with he | he
     ·exact .inr (.inr (callX_ok hop hfo he))
     ·exact .inr (.inl ⟨_, _, _, hop, he⟩)
   ·exact .inr (.inl ⟨_, _, _, hop, he⟩)
  ·exact he.elim
 ·exact .inr (.inr (panic_ok ‹_› he))
 ·exact .inl (ifc_ok ‹_› he)
 ·exact .inl (assert_ok ‹_› he)
 ·exact .inl (pure he)
theorem evOp_ok {P : Program} {M : Mode} {o : Oper} {t : List TV} {h : List Ob} {id : Nat} {K : OpK} {KX : XK} (he : evOp P M true o t h id K KX) : (∃ v wr rd, K v wr rd ∧ OpOK P o t h id v wr rd) ∨ (∃ x rd, KX x rd ∧ OpX P o t h x rd) := by
 rcases evOp_split he with h | ⟨fo, args, argTypes, hop, h⟩ | h
 ·exact .inl h
 ·exact .inl (callG_ok hop h)
 ·exact .inr h
theorem evOp_seq {P : Program} {M : Mode} {o : Oper} {t : List TV} {h : List Ob} {K : OpK} {KX : XK} (he : evOp P M false o t h h.length K KX) : (∃ v wr rd, K v wr rd ∧ OpSeq P o t h v wr) ∨ (∃ x rd, KX x rd ∧ OpX P o t h x rd) := by
 rcases evOp_split he with ⟨v, wr, rd, hk, hv⟩ | ⟨fo, args, argTypes, hop, h⟩ | h
 ·exact .inl ⟨v, wr, rd, hk, hv.seq⟩
 ·exact .inl (callG_seq hop h)
 ·exact .inr h
def guardK (cl : Bool) (ops : Array Oper) (o : Oper) (t : List TV) (yes no : List TV → Prop) : Prop :=
 match o.guard with
 | none => yes t
 | some (j, want) =>
  match (ops[j]?).bind (·.dst) with
  | some d =>
   match t.getD d .und with
   | .one (.kb true) => if want = true then yes t else no t
   | .one (.kb false) => if want = false then yes t else no t
   | .one (.fz (.bool b)) => splitB cl b (if want = true then yes (t.set d (.one (.kb true))) else no (t.set d (.one (.kb true)))) (if want = false then yes (t.set d (.one (.kb false))) else no (t.set d (.one (.kb false))))
   | .one .ub => (if want = true then yes (t.set d (.one (.kb true))) else no (t.set d (.one (.kb true)))) ∧ (if want = false then yes (t.set d (.one (.kb false))) else no (t.set d (.one (.kb false))))
   | .tup [] => no t
   | _ => False
  | none => False
theorem Rep.refine {P : Program} {ext : Nat → Prop} {w0 : World} {own0 : Own0} {t : List TV} {h : List Ob} {a : Act} {w : World} (R : Rep P ext w0 own0 ⟨t, h⟩ a w) {d : Nat} {b : Bool} (hd : a.tmps[d]? = some (.bool b)) :
  Rep P ext w0 own0 ⟨t.set d (.one (.kb b)), h⟩ a w := by
 obtain ⟨locs, H, RTm⟩ := R.repT
 refine ⟨R.defers, by simpa using R.size, locs, H, fun i x hx => ?_⟩
 simp only at hx
 rw [List.getElem?_set] at hx
 by_cases e : d = i
 ·subst e
  rw [if_pos rfl] at hx
  split at hx
  ·cases hx; exact ⟨_, hd, rfl⟩
  ·cases hx
 ·rw [if_neg e] at hx
  exact RTm i x hx
theorem guardK_ok {P : Program} {cl : Bool} {ops : Array Oper} {o : Oper} {t : List TV} {yes no : List TV → Prop} (hg : guardK cl ops o t yes no) {ext : Nat → Prop} {w0 : World} {own0 : Own0} {h : List Ob} {a : Act} {w : World} (R : Rep P ext w0 own0 ⟨t, h⟩ a w) :
  (Region.wanted o (yielded ops a.tmps) = true ∧ ∃ t', yes t' ∧ Rep P ext w0 own0 ⟨t', h⟩ a w) ∨ (Region.wanted o (yielded ops a.tmps) = false ∧ ∃ t', no t' ∧ Rep P ext w0 own0 ⟨t', h⟩ a w) := by
 unfold guardK at hg
 unfold Region.wanted
 split at hg
 ·rename_i hgn
  simp only [hgn]
  exact .inl ⟨trivial, t, hg, R⟩
 ·rename_i j want hgd
  simp only [hgd]
  split at hg
  ·rename_i d hd
   obtain ⟨locs, H, RTm⟩ := R.repT
   have hy : yielded ops a.tmps j = match a.tmps[d]? with | some (.bool b) => some b | _ => none := by
    unfold yielded; rw [hd]; rfl
   have hget : ∀ x, t.getD d .und = x → x ≠ .und → ∃ u, a.tmps[d]? = some u ∧ RT w (Bar ext locs h) locs x u := by
    intro x hx hne
    rw [List.getD_eq_getElem?_getD] at hx
    cases hq : t[d]? with
    | none => rw [hq] at hx; exact absurd hx.symm hne
    | some y => rw [hq] at hx; simp only [Option.getD_some] at hx; subst hx; exact RTm d y hq
   have fin : ∀ b, a.tmps[d]? = some (.bool b) → ∀ t', (if want = b then yes t' else no t') → Rep P ext w0 own0 ⟨t', h⟩ a w →
     ((yielded ops a.tmps j == some want) = true ∧ ∃ t', yes t' ∧ Rep P ext w0 own0 ⟨t', h⟩ a w) ∨ ((yielded ops a.tmps j == some want) = false ∧ ∃ t', no t' ∧ Rep P ext w0 own0 ⟨t', h⟩ a w) := by
    intro b hb t' ht' R'
    have hy' : yielded ops a.tmps j = some b := by rw [hy, hb]
    rw [hy']
    by_cases e : want = b
    ·subst e
     rw [if_pos rfl] at ht'
     exact .inl ⟨by simp, t', ht', R'⟩
    ·rw [if_neg e] at ht'
     exact .inr ⟨by simp only [beq_eq_false_iff_ne, ne_eq, Option.some.injEq]; exact fun e' => e e'.symm, t', ht', R'⟩
   split at hg
   ·rename_i hx
    obtain ⟨u, hu, hr⟩ := hget _ hx (by simp)
    cases hr
    exact fin true hu t hg R
   ·rename_i hx
    obtain ⟨u, hu, hr⟩ := hget _ hx (by simp)
    cases hr
    exact fin false hu t hg R
   ·rename_i b hx
    obtain ⟨u, hu, hr⟩ := hget _ hx (by simp)
    cases hr
    cases b with
    | true => exact fin true hu _ ((splitB_ok hg).1 rfl) (R.refine hu)
    | false => exact fin false hu _ ((splitB_ok hg).2 rfl) (R.refine hu)
   ·rename_i hx
    obtain ⟨u, hu, b, rfl⟩ := hget _ hx (by simp)
    cases b with
    | true => exact fin true hu _ hg.1 (R.refine hu)
    | false => exact fin false hu _ hg.2 (R.refine hu)
   ·rename_i hx
    obtain ⟨u, hu, vs, rfl, _, _⟩ := hget _ hx (by simp)
    exact .inr ⟨by rw [hy, hu]; rfl, t, hg, R⟩
   ·exact hg.elim
  ·exact hg.elim
def trOps (P : Program) (M : Mode) (ops : Array Oper) (k : St → Prop) : List Nat → St → Prop
 | [], st => k st
 | i :: r, st =>
  match ops[i]? with
  | none => trOps P M ops k r st
  | some o => guardK M.cl ops o st.t (fun t => evOp P M false o t st.h st.h.length (fun v wr _ => trOps P M ops k r ⟨putT t o.dst v, putOs st.h wr⟩) fun x _ => M.kp x ⟨t, shH st.h⟩) (fun t => trOps P M ops k r ⟨putT t o.dst (.tup []), st.h⟩)
theorem Rep.skipped {P : Program} {ext : Nat → Prop} {w0 : World} {own0 : Own0} {t : List TV} {h : List Ob} {a : Act} {w : World} (R : Rep P ext w0 own0 ⟨t, h⟩ a w) (dst : Option Tmp) : Rep P ext w0 own0 ⟨putT t dst (.tup []), h⟩ (a.put dst undef) w := by
 obtain ⟨locs, H, RTm⟩ := R.repT
 exact Rep.mkput R RTm H (Later.refl _ _) (fun _ _ h => h) dst (.tup []) undef ⟨#[], rfl, rfl, by simp⟩
def PanQ (P : Program) (M : Mode) (ext : Nat → Prop) (w0 : World) (own0 : Own0) (Q : Exit → Act → World → Prop) : Prop :=
 ∀ (x : FV) (st : St) (v : Value) (a : Act) (w : World), M.kp x st → Rep P ext w0 own0 ⟨st.t ++ [.one (.fz x)], st.h⟩ { a with tmps := a.tmps.push v } w → Q (.panic [{ v, recovered := false }]) a w
theorem trOps_ok {P : Program} {M : Mode} {ops : Array Oper} {k : St → Prop} {ext : Nat → Prop} {w0 : World} {own0 : Own0} {Q : Exit → Act → World → Prop} (hQ : ∀ st a w, k st → Rep P ext w0 own0 st a w → Q .normal a w)
  (hX : PanQ P M ext w0 own0 Q) :
  ∀ (l : List Nat) (st : St) (a : Act) (w : World), trOps P M ops k l st → Rep P ext w0 own0 st a w → wpOps P ops Q l a w
 | [], st, a, w, h, R => hQ st a w h R
 | i :: r, st, a, w, h, R => by
  unfold trOps at h
  unfold wpOps
  cases ho : ops[i]? with
  | none => simp only [ho] at h ⊢; exact trOps_ok hQ hX r st a w h R
  | some o =>
   simp only [ho] at h ⊢
   rcases guardK_ok h R with ⟨hw, t', ht', R'⟩ | ⟨hw, t', ht', R'⟩
   ·rw [if_pos hw]
    left
    rcases evOp_seq ht' with ⟨v, wr, rd, hk, hv⟩ | ⟨x, rd, hk, hv⟩
    ·exact Oper.wp_mono (fun a' w' R2 => trOps_ok hQ hX r _ a' w' hk R2) (hv ext w0 own0 a w Q R')
    ·exact hv ext w0 own0 _ _ a w _ Q rfl (fun _ _ => rfl) (fun _ _ => rfl) R' (fun v w' R2 => hX x ⟨t', shH st.h⟩ v a w' hk R2)
   ·rw [if_neg (by rw [hw]; simp)]
    exact trOps_ok hQ hX r _ _ w ht' (R'.skipped o.dst)
end
section
structure Rec where
 dst : Option Tmp
 v : TV
 wr : List (Nat × Ob)
 rd : List Nat
def Rec.app (st : St) (r : Rec) : St := ⟨putT st.t r.dst r.v, putOs st.h r.wr⟩
def Rec.ids (r : Rec) : List Nat := r.wr.map (·.1)
def isGuard (ops : Array Oper) (i : Nat) : Bool := ops.toList.any fun o => match o.guard with | some (j, _) => j == i | none => false
def knowV (cl : Bool) (g : Bool) (v : TV) (K : TV → Prop) : Prop :=
 match g, v with
 | true, .one (.fz (.bool b)) => splitB cl b (K (.one (.kb true))) (K (.one (.kb false)))
 | _, v => K v
def guardD (ops : Array Oper) (o : Oper) (t : List TV) (yes no : Prop) : Prop :=
 match o.guard with
 | none => yes
 | some (j, want) =>
  match (ops[j]?).bind (·.dst) with
  | some d =>
   match t.getD d .und with
   | .one (.kb true) => if want = true then yes else no
   | .one (.kb false) => if want = false then yes else no
   | .tup [] => no
   | _ => False
  | none => False
def masks : List Oper → List Nat → List Nat
 | [], acc => acc
 | o :: r, acc => masks r (acc ++ [o.after.toList.foldl (fun s e => if Region.binds .any e = true then s ||| 2 ^ e.on ||| acc.getD e.on 0 else s) 0])
def ordB (ms : List Nat) (i j : Nat) : Bool := decide (i < j) && (ms.getD j 0).testBit i
def skipB (ops : Array Oper) (pn : Option (Nat × FV)) (i : Nat) : Bool :=
 match pn with
 | none => false
 | some (i0, _) => i0 == i || ordB (masks ops.toList []) i0 i
def onlyN (pn : Option (Nat × FV)) (p : Prop) : Prop :=
 match pn with
 | none => p
 | some _ => False
def trDr (P : Program) (M : Mode) (ops : Array Oper) (base : Nat) (k : List Rec → St → Prop) (kx : Nat → FV → List Rec → Prop) : List Nat → Option (Nat × FV) → List Rec → St → Prop
 | [], none, acc, st => k acc st
 | [], some (i0, x), acc, _ => kx i0 x acc
 | i :: r, pn, acc, st =>
  match ops[i]? with
  | none => False
  | some o =>
   match skipB ops pn i with
   | true => trDr P M ops base k kx r pn (acc ++ [⟨o.dst, .und, [], []⟩]) ⟨putT st.t o.dst .und, st.h⟩
   | false => guardD ops o st.t
    (evOp P M true o st.t st.h (base + i) (fun v wr rd => knowV M.cl (isGuard ops i) v fun v => trDr P M ops base k kx r pn (acc ++ [⟨o.dst, v, wr, rd⟩]) ⟨putT st.t o.dst v, putOs st.h wr⟩)
     fun x rd => onlyN pn (trDr P M ops base k kx r (some (i, x)) (acc ++ [⟨o.dst, .und, [], rd⟩]) ⟨putT st.t o.dst .und, st.h⟩))
    (trDr P M ops base k kx r pn (acc ++ [⟨o.dst, .tup [], [], []⟩]) ⟨putT st.t o.dst (.tup []), st.h⟩)
def okPair (ops : Array Oper) (ms : List Nat) (i j : Nat) (oi oj : Oper) (ri rj : Rec) : Bool :=
 ordB ms i j || ordB ms j i ||
  ((match oi.dst with | some d => !(oj.looksAt ops).contains d | none => true) && !(ri.ids.any fun o => rj.rd.contains o || rj.ids.contains o))
def okDraw (ops : Array Oper) (base : Nat) (recs : List Rec) : Bool :=
 let ms := masks ops.toList []
 let all := ops.toList.zip recs
 (all.length == ops.size) && (all.length == recs.length) &&
 Region.noSelect ops &&
 (all.zipIdx.all fun ((oi, ri), i) =>
  (oi.after.all fun e => !Region.binds .any e || decide (e.on < i)) &&
  (ri.ids.all fun o => decide (o < base + ops.size) && (decide (o < base) || (o - base == i) || ordB ms (o - base) i)) &&
  (all.zipIdx.all fun ((oj, rj), j) => i == j || (okPair ops ms i j oi oj ri rj && (match oi.dst with | some d => oj.dst != some d | none => true))))
def shB : Ob → Option (Nat × Nat)
 | .g gt cs => some (gt, cs.length)
 | _ => none
def okPan (base : Nat) (h : List Ob) (recs : List Rec) : Bool :=
 recs.all fun r => r.wr.all fun (o, ob) => decide (base ≤ o) || shB ob == shB (getO h o)
def undD (ops : Array Oper) (t : List TV) : List TV := t.zipIdx.map fun (v, i) => if ops.toList.any (fun o => o.dst == some i) = true then .und else v
def panSt (ops : Array Oper) (st : St) : St := ⟨undD ops st.t, shH st.h ++ List.replicate ops.size .no⟩
def trDraw (P : Program) (M : Mode) (ops : Array Oper) (k : St → Prop) (st : St) : Prop :=
 trDr P M ops st.h.length (fun recs st' => if okDraw ops st.h.length recs = true then k st' else False)
  (fun _ x recs => if (okDraw ops st.h.length recs && okPan st.h.length st.h recs) = true then M.kp x (panSt ops st) else False)
  (List.range ops.size) none [] ⟨st.t, st.h ++ List.replicate ops.size .rs⟩
def Told (P : Program) (ops : Array Oper) (base i : Nat) (o : Oper) (st : St) (r : Rec) : Prop :=
 r.dst = o.dst ∧
 ((OpOK P o st.t st.h (base + i) r.v r.wr r.rd ∧ (∀ j want d, o.guard = some (j, want) → (ops[j]?).bind (·.dst) = some d → st.t.getD d .und = .one (.kb want)) ∧ (∀ j want, o.guard = some (j, want) → ∃ d, (ops[j]?).bind (·.dst) = some d)) ∨
  (r.v = .tup [] ∧ r.wr = [] ∧ r.rd = [] ∧ ∃ j want d, o.guard = some (j, want) ∧ (ops[j]?).bind (·.dst) = some d ∧ (st.t.getD d .und = .one (.kb (!want)) ∨ st.t.getD d .und = .tup [])))
theorem OpOK.know {P : Program} {o : Oper} {t : List TV} {h : List Ob} {id : Nat} {b : Bool} {wr : List (Nat × Ob)} {rd : List Nat} (hk : OpOK P o t h id (.one (.fz (.bool b))) wr rd) : OpOK P o t h id (.one (.kb b)) wr rd := by
 intro ext w0 own0 t' h' a w Q h1 h2 h3 h4 R
 refine Oper.wp_mono (fun a' w' R' => ?_) (hk ext w0 own0 t' h' a w Q h1 h2 h3 h4 R)
 obtain ⟨locs, H, RTm⟩ := R'.repT
 refine ⟨R'.defers, ?_, locs, H, fun i x hx => ?_⟩
 ·have h5 := R'.size
  cases hd : o.dst with
  | none => rw [hd] at h5; exact h5
  | some d => rw [hd] at h5; simpa [putT] using h5
 ·cases hd : o.dst with
  | none => rw [hd] at hx RTm; exact RTm i x hx
  | some d =>
   rw [hd] at hx RTm
   simp only [putT] at hx RTm
   rw [List.getElem?_set] at hx
   by_cases e : d = i
   ·subst e
    rw [if_pos rfl] at hx
    split at hx
    ·rename_i hlt
     cases hx
     obtain ⟨u, hu, hr⟩ := RTm d (.one (.fz (.bool b))) (by rw [List.getElem?_set, if_pos rfl, if_pos hlt])
     cases hr
     exact ⟨_, hu, rfl⟩
    ·cases hx
   ·rw [if_neg e] at hx
    exact RTm i x (by rw [List.getElem?_set, if_neg e]; exact hx)
def ToldX (P : Program) (ops : Array Oper) (o : Oper) (st : St) (r : Rec) (x : FV) : Prop :=
 OpX P o st.t st.h x r.rd ∧ (∀ j want d, o.guard = some (j, want) → (ops[j]?).bind (·.dst) = some d → st.t.getD d .und = .one (.kb want)) ∧ (∀ j want, o.guard = some (j, want) → ∃ d, (ops[j]?).bind (·.dst) = some d)
def AllTold (P : Program) (ops : Array Oper) (base : Nat) (pn : Option (Nat × FV)) (i : Nat) (st : St) (r : Rec) : Prop :=
 ∃ o, ops[i]? = some o ∧ r.dst = o.dst ∧ (skipB ops pn i = false → Told P ops base i o st r) ∧ ∀ x, pn = some (i, x) → ToldX P ops o st r x
def DrOut (P : Program) (ops : Array Oper) (base : Nat) (k : List Rec → St → Prop) (kx : Nat → FV → List Rec → Prop) (l : List Nat) (pn : Option (Nat × FV)) (acc : List Rec) (st : St) : Prop :=
 ∃ (recs : List Rec) (pn' : Option (Nat × FV)), recs.length = l.length ∧ (pn' = none → k (acc ++ recs) (recs.foldl Rec.app st)) ∧ (∀ i0 x, pn' = some (i0, x) → kx i0 x (acc ++ recs)) ∧ (∀ q, pn = some q → pn' = some q) ∧ (∀ q, pn' = some q → pn = some q ∨ q.1 ∈ l) ∧
  ∀ (n i : Nat) (r : Rec), l[n]? = some i → recs[n]? = some r → AllTold P ops base pn' i ((recs.take n).foldl Rec.app st) r
theorem trDr_out {P : Program} {M : Mode} {ops : Array Oper} {base : Nat} {k : List Rec → St → Prop} {kx : Nat → FV → List Rec → Prop} : ∀ (l : List Nat) (pn : Option (Nat × FV)) (acc : List Rec) (st : St), l.Nodup → (∀ q, pn = some q → q.1 ∉ l) → trDr P M ops base k kx l pn acc st → DrOut P ops base k kx l pn acc st
 | [], none, acc, st, _, _, h => ⟨[], none, rfl, fun _ => by simp only [List.append_nil]; exact h, by simp, by simp, by simp, by simp⟩
 | [], some (i0, x), acc, st, _, _, h => ⟨[], some (i0, x), rfl, by simp, fun i1 x1 e => by cases e; simp only [List.append_nil]; exact h, by simp, fun q e => .inl e, by simp⟩
 | i :: l, pn, acc, st, hnd, hpn, h => by
  unfold trDr at h
  have hi : i ∉ l := (List.nodup_cons.1 hnd).1
  have hl : l.Nodup := (List.nodup_cons.1 hnd).2
  have hpl : ∀ q, pn = some q → q.1 ∉ l := fun q e hm => hpn q e (List.mem_cons_of_mem _ hm)
  split at h
  ·exact h.elim
  ·rename_i o ho
   have fin : ∀ (r : Rec), r.dst = o.dst → (∀ pn', (∀ q, pn = some q → pn' = some q) → skipB ops pn' i = false → Told P ops base i o st r) → trDr P M ops base k kx l pn (acc ++ [r]) (Rec.app st r) →
     DrOut P ops base k kx (i :: l) pn acc st := by
    intro r hd hr ht
    obtain ⟨recs, pn', h1, h2, h3, h4, h5, h6⟩ := trDr_out l pn _ _ hl hpl ht
    refine ⟨r :: recs, pn', by simp [h1], fun e => by simpa using h2 e, fun i0 x e => by simpa using h3 i0 x e, h4, fun q e => (h5 q e).imp id (fun hm => List.mem_cons_of_mem _ hm), fun n i' r' hn hr' => ?_⟩
    cases n with
    | zero =>
     cases hn; cases hr'
     refine ⟨o, ho, hd, fun hs => hr pn' h4 hs, fun x e => ?_⟩
     rcases h5 _ e with h7 | h7
     ·exact absurd (by simp) (hpn _ h7)
     ·exact absurd h7 hi
    | succ n => exact h6 n i' r' hn hr'
   have tu : ∀ (r : Rec), Told P ops base i o st r → trDr P M ops base k kx l pn (acc ++ [r]) (Rec.app st r) → DrOut P ops base k kx (i :: l) pn acc st := fun r hr ht => fin r hr.1 (fun _ _ _ => hr) ht
   split at h
   ·rename_i hsk
    refine fin ⟨o.dst, .und, [], []⟩ rfl (fun pn' hp hs => ?_) h
    exfalso
    cases hq : pn with
    | none => rw [hq] at hsk; cases hsk
    | some q => rw [hp q hq, ← hq, hsk] at hs; cases hs
   ·have yes : (∀ j want d, o.guard = some (j, want) → (ops[j]?).bind (·.dst) = some d → st.t.getD d .und = .one (.kb want)) → (∀ j want, o.guard = some (j, want) → ∃ d, (ops[j]?).bind (·.dst) = some d) →
      (evOp P M true o st.t st.h (base + i) (fun v wr rd => knowV M.cl (isGuard ops i) v fun v => trDr P M ops base k kx l pn (acc ++ [⟨o.dst, v, wr, rd⟩]) ⟨putT st.t o.dst v, putOs st.h wr⟩)
       fun x rd => onlyN pn (trDr P M ops base k kx l (some (i, x)) (acc ++ [⟨o.dst, .und, [], rd⟩]) ⟨putT st.t o.dst .und, st.h⟩)) → DrOut P ops base k kx (i :: l) pn acc st := by
     intro hg1 hg2 he
     rcases evOp_ok he with ⟨v, wr, rd, hk, hv⟩ | ⟨x, rd, hk, hv⟩
     ·generalize isGuard ops i = g at hk
      unfold knowV at hk
      split at hk
      ·rename_i b
       cases hb : b with
       | true => subst hb; exact tu ⟨o.dst, .one (.kb true), wr, rd⟩ ⟨rfl, .inl ⟨hv.know, hg1, hg2⟩⟩ ((splitB_ok hk).1 rfl)
       | false => subst hb; exact tu ⟨o.dst, .one (.kb false), wr, rd⟩ ⟨rfl, .inl ⟨hv.know, hg1, hg2⟩⟩ ((splitB_ok hk).2 rfl)
      ·exact tu ⟨o.dst, _, wr, rd⟩ ⟨rfl, .inl ⟨hv, hg1, hg2⟩⟩ hk
     ·cases pn with
      | some q => exact hk.elim
      | none =>
       obtain ⟨recs, pn', h1, h2, h3, h4, h5, h6⟩ := trDr_out l (some (i, x)) _ _ hl (fun q e => by cases e; exact hi) hk
       have hp := h4 _ rfl
       refine ⟨⟨o.dst, .und, [], rd⟩ :: recs, pn', by simp [h1], fun e => by simpa [Rec.app, putOs] using h2 e, fun i0 x e => by simpa using h3 i0 x e, by simp, fun q e => .inr (by rw [hp] at e; cases e; simp), fun n i' r' hn hr' => ?_⟩
       cases n with
       | zero =>
        cases hn; cases hr'
        refine ⟨o, ho, rfl, fun hs => ?_, fun y e => ?_⟩
        ·rw [hp] at hs
         simp [skipB] at hs
        ·rw [hp] at e
         cases e
         exact ⟨hv, hg1, hg2⟩
       | succ n => exact h6 n i' r' hn hr'
    unfold guardD at h
    split at h
    ·rename_i hg
     exact yes (fun j want d h => by rw [hg] at h; cases h) (fun j want h => by rw [hg] at h; cases h) h
    ·rename_i j want hg
     split at h
     ·rename_i d hd
      have hyes : ∀ b, st.t.getD d .und = .one (.kb b) → want = b → (∀ j want d, o.guard = some (j, want) → (ops[j]?).bind (·.dst) = some d → st.t.getD d .und = .one (.kb want)) ∧ (∀ j want, o.guard = some (j, want) → ∃ d, (ops[j]?).bind (·.dst) = some d) := by
       intro b hb hw
       exact ⟨fun j' want' d' h1 h2 => by rw [hg] at h1; cases h1; rw [hd] at h2; cases h2; rw [hb, hw], fun j' want' h1 => by rw [hg] at h1; cases h1; exact ⟨d, hd⟩⟩
      split at h
      ·rename_i hx
       split at h
       ·rename_i hw
        obtain ⟨h1, h2⟩ := hyes true hx hw
        exact yes h1 h2 h
       ·rename_i hw
        exact tu ⟨o.dst, .tup [], [], []⟩ ⟨rfl, .inr ⟨rfl, rfl, rfl, j, want, d, hg, hd, .inl (by rw [hx]; cases want <;> simp_all)⟩⟩ h
      ·rename_i hx
       split at h
       ·rename_i hw
        obtain ⟨h1, h2⟩ := hyes false hx hw
        exact yes h1 h2 h
       ·rename_i hw
        exact tu ⟨o.dst, .tup [], [], []⟩ ⟨rfl, .inr ⟨rfl, rfl, rfl, j, want, d, hg, hd, .inl (by rw [hx]; cases want <;> simp_all)⟩⟩ h
      ·rename_i hx
       exact tu ⟨o.dst, .tup [], [], []⟩ ⟨rfl, .inr ⟨rfl, rfl, rfl, j, want, d, hg, hd, .inr hx⟩⟩ h
      ·exact h.elim
     ·exact h.elim
end
end Go.Proofs.YtenkkekooimpjaaGreatDoor.Ev
end
