/-
 Part of a claim: definitions and lemmas that its theorem leans on, packed by wip/tools/pack.py.
-/
import Derived.Test.YtenkkekooimpjaaGreatDoorZT5
import Derived.Orders
import Derived.LoopN
import Derived.KernelRfl
import Derived.Lib.DecodeN
import Derived.Laws.Sem
import Derived.Laws.World
import Derived.Laws.Slices
import Derived.Laws.Cells
import Derived.Laws.Append
import Derived.Laws.Build
import Derived.Laws.BytesString
import Derived.Laws.Tables
import Derived.Laws.AppendOwn
import Derived.Laws.MakeOwn
import Derived.Laws.CopyRow
set_option linter.unusedVariables false
set_option linter.unusedSimpArgs false
section
set_option linter.unusedVariables false
namespace Go.Proofs.YtenkkekooimpjaaGreatDoor.Ev
open Go
section
inductive FV where
 | int (k : IntKind) (n : Int)
 | bool (b : Bool)
 | str (s : ByteArray)
 | nilp
 | fp (cs : List FV)
 | sl (sz : Nat) (es : List (List FV))
 | fn (f : FuncId) (caps : List (Bool × List FV))
 | nilf
 | ifc (b : Bool)
 | ifv (t : TypeId) (b : Bool) (cs : List FV)
 deriving Inhabited
abbrev LL := List (List FV)
inductive AV where
 | fz (v : FV)
 | kb (b : Bool)
 | ub
 | nsl (sz : Nat)
 | ofl (sz o : Nat)
 | ptr (o e c : Nat) (ty : TypeId)
 | und
 deriving Inhabited
inductive TV where
 | one (a : AV)
 | agg (cs : List AV)
 | tup (ts : List (Bool × List AV))
 | und
 deriving Inhabited
inductive Ob where
 | no
 | rs
 | f (et : TypeId) (sz : Nat) (es : List (List FV))
 | z (sz : Nat) (es : List (List FV))
 | g (gt : TypeId) (cs : List AV)
 | r (s : Nat) (et : TypeId) (sz : Nat) (es : List (List FV)) (n : Option Nat) (fo : Option (Nat × Nat × Nat))
 deriving Inhabited
structure St where
 t : List TV
 h : List Ob
structure Loc where
 a : Option Addr
 cap : Nat
 sz : Nat
 len : Nat
structure Locs where
 l : Nat → Option Loc
 own : Nat → Nat → Prop
instance : CoeFun Locs fun _ => Nat → Option Loc := ⟨Locs.l⟩
instance : Coe Locs (Nat → Option Loc) := ⟨Locs.l⟩
def Locs.hs (locs : Locs) (o : Nat) (l : Loc) (d : Addr) : Prop := l.a = some d ∨ locs.own o d.block
def noL : Locs := ⟨fun _ => none, fun _ _ => False⟩
def mkV (b : Bool) (vs : List Value) : Value := if b then .agg vs.toArray else vs.headD undef
inductive RF (w : World) (B : Nat → Prop) : FV → Value → Prop where
 | int (k : IntKind) (n : Int) : RF w B (.int k n) (.int k n)
 | bool (b : Bool) : RF w B (.bool b) (.bool b)
 | str (s : ByteArray) : RF w B (.str s) (.string s)
 | nilp : RF w B .nilp (.pointer none)
 | nilf : RF w B .nilf .nilFunc
 | ifcN : RF w B (.ifc false) .nilIface
 | ifcS (t : TypeId) (v : Value) : RF w B (.ifc true) (.iface t v)
 | ifv (t : TypeId) (b : Bool) (cs : List FV) (vs : List Value) (hl : vs.length = cs.length) (h1 : b = false → vs.length = 1)
   (hr : ∀ (j : Nat) (x : FV) (v : Value), cs[j]? = some x → vs[j]? = some v → RF w B x v) : RF w B (.ifv t b cs) (.iface t (mkV b vs))
 | fp (cs : List FV) (b off : Nat) (cv : Nat → Value) (hb : ∀ (j : Nat) (x : FV), cs[j]? = some x → ¬ B b)
   (h : ∀ (j : Nat) (x : FV), cs[j]? = some x → w.cell? ⟨b, off + j, none⟩ = some (cv j))
   (hr : ∀ (j : Nat) (x : FV), cs[j]? = some x → RF w B x (cv j)) : RF w B (.fp cs) (.pointer (some ⟨b, off, none⟩))
 | slN (sz : Nat) (a : Option Addr) (c : Nat) : RF w B (.sl sz []) (.slice a 0 c)
 | sl (es : List (List FV)) (b off c sz : Nat) (cv : Nat → Nat → Value) (hb : ∀ (i : Nat) (e : List FV) (j : Nat) (x : FV), es[i]? = some e → e[j]? = some x → ¬ B b) (hc : es.length ≤ c)
   (hsz : ∀ (i : Nat) (e : List FV), es[i]? = some e → e.length = sz)
   (h : ∀ (i : Nat) (e : List FV) (j : Nat) (x : FV), es[i]? = some e → e[j]? = some x → w.cell? ⟨b, off + i * sz + j, none⟩ = some (cv i j))
   (hr : ∀ (i : Nat) (e : List FV) (j : Nat) (x : FV), es[i]? = some e → e[j]? = some x → RF w B x (cv i j)) : RF w B (.sl sz es) (.slice (some ⟨b, off, none⟩) es.length c)
 | fn (f : FuncId) (caps : List (Bool × List FV)) (vs : Nat → List Value) (cvs : Array Value) (hn : cvs.size = caps.length)
   (hv : ∀ (i : Nat) (b : Bool) (cs : List FV), caps[i]? = some (b, cs) → (vs i).length = cs.length ∧ cvs[i]? = some (mkV b (vs i)))
   (hr : ∀ (i : Nat) (b : Bool) (cs : List FV) (j : Nat) (x : FV) (v : Value), caps[i]? = some (b, cs) → cs[j]? = some x → (vs i)[j]? = some v → RF w B x v) :
   RF w B (.fn f caps) (.func (.func f) #[] cvs)
theorem cell_lt {w : World} {b off : Nat} {v : Value} (h : w.cell? ⟨b, off, none⟩ = some v) : b < w.heap.size := by
 rcases Nat.lt_or_ge b w.heap.size with h' | h'
 ·exact h'
 ·simp [World.cell?, Array.getElem?_eq_none h'] at h
theorem cell_eq {w w' : World} {b off : Nat} (h : w'.heap[b]? = w.heap[b]?) : w'.cell? ⟨b, off, none⟩ = w.cell? ⟨b, off, none⟩ := by
 simp [World.cell?, h]
structure Later (w : World) (B : Nat → Prop) (w' : World) (B' : Nat → Prop) : Prop where
 same : ∀ b, b < w.heap.size → ¬ B b → w'.heap[b]? = w.heap[b]?
 bar : ∀ b, b < w.heap.size → B' b → B b
theorem RF.later {w : World} {B : Nat → Prop} {w' : World} {B' : Nat → Prop} (l : Later w B w' B') {x : FV} {v : Value} (h : RF w B x v) : RF w' B' x v := by
 induction h with
 | int k n => exact .int k n
 | bool b => exact .bool b
 | str s => exact .str s
 | nilp => exact .nilp
 | nilf => exact .nilf
 | ifcN => exact .ifcN
 | ifcS t v => exact .ifcS t v
 | ifv t b cs vs hl h1 hr ih => exact .ifv t b cs vs hl h1 ih
 | slN sz a c => exact .slN sz a c
 | fp cs b off cv hb h hr ih =>
  have hl := fun (j : Nat) (x : FV) (e : cs[j]? = some x) => cell_lt (h j x e)
  exact .fp cs b off cv (fun j x e hb' => hb j x e (l.bar b (hl j x e) hb'))
   (fun j x e => (cell_eq (l.same b (hl j x e) (hb j x e))).trans (h j x e)) ih
 | sl es b off c sz cv hb hc hsz h hr ih =>
  have hl := fun (i : Nat) (e : List FV) (j : Nat) (x : FV) (h1 : es[i]? = some e) (h2 : e[j]? = some x) => cell_lt (h i e j x h1 h2)
  exact .sl es b off c sz cv (fun i e j x h1 h2 hb' => hb i e j x h1 h2 (l.bar b (hl i e j x h1 h2) hb')) hc hsz
   (fun i e j x h1 h2 => (cell_eq (l.same b (hl i e j x h1 h2) (hb i e j x h1 h2))).trans (h i e j x h1 h2)) ih
 | fn f caps vs cvs hn hv hr ih => exact .fn f caps vs cvs hn hv ih
def RA (w : World) (B : Nat → Prop) (locs : Nat → Option Loc) : AV → Value → Prop
 | .fz x, v => RF w B x v
 | .kb b, v => v = .bool b
 | .ub, v => ∃ b, v = .bool b
 | .nsl _, v => ∃ a, v = .slice a 0 0
 | .ofl sz o, v => ∃ l a c, locs o = some l ∧ l.sz = sz ∧ v = .slice a l.len c ∧ l.len ≤ c ∧ c ≤ l.cap ∧ (c = 0 ∨ a = l.a)
 | .ptr o e c _, v => ∃ l d, locs o = some l ∧ l.a = some d ∧ v = .pointer (some ⟨d.block, d.off + e * l.sz + c, none⟩)
 | .und, _ => True
def RC (w : World) (B : Nat → Prop) (locs : Nat → Option Loc) (b : Bool) (cs : List AV) (v : Value) : Prop :=
 ∃ vs : List Value, v = mkV b vs ∧ vs.length = cs.length ∧ (b = false → vs.length = 1) ∧ ∀ (j : Nat) (x : AV), cs[j]? = some x → ∃ u, vs[j]? = some u ∧ RA w B locs x u
def RT (w : World) (B : Nat → Prop) (locs : Nat → Option Loc) : TV → Value → Prop
 | .one a, v => RA w B locs a v
 | .agg cs, v => RC w B locs true cs v
 | .tup ts, v => ∃ vs : Array Value, v = .tuple vs ∧ vs.size = ts.length ∧ ∀ (i : Nat) (b : Bool) (cs : List AV), ts[i]? = some (b, cs) → ∃ u, vs[i]? = some u ∧ RC w B locs b cs u
 | .und, _ => True
theorem RA.later {w : World} {B : Nat → Prop} {w' : World} {B' : Nat → Prop} (l : Later w B w' B') {locs locs' : Nat → Option Loc} (hl : ∀ (o : Nat) (x : Loc), locs o = some x → locs' o = some x)
  {a : AV} {v : Value} (h : RA w B locs a v) : RA w' B' locs' a v := by
 cases a with
 | fz x => exact RF.later l h
 | ofl sz o => obtain ⟨x, a, c, h1, h2⟩ := h; exact ⟨x, a, c, hl _ _ h1, h2⟩
 | ptr o e c ty => obtain ⟨x, d, h1, h2⟩ := h; exact ⟨x, d, hl _ _ h1, h2⟩
 | _ => exact h
theorem RC.later {w : World} {B : Nat → Prop} {w' : World} {B' : Nat → Prop} (l : Later w B w' B') {locs locs' : Nat → Option Loc} (hl : ∀ (o : Nat) (x : Loc), locs o = some x → locs' o = some x)
  {b : Bool} {cs : List AV} {v : Value} (h : RC w B locs b cs v) : RC w' B' locs' b cs v := by
 obtain ⟨vs, h1, h2, h3, h4⟩ := h
 exact ⟨vs, h1, h2, h3, fun j x hx => by obtain ⟨u, hu, hr⟩ := h4 j x hx; exact ⟨u, hu, RA.later l hl hr⟩⟩
theorem RT.later {w : World} {B : Nat → Prop} {w' : World} {B' : Nat → Prop} (l : Later w B w' B') {locs locs' : Nat → Option Loc} (hl : ∀ (o : Nat) (x : Loc), locs o = some x → locs' o = some x)
  {t : TV} {v : Value} (h : RT w B locs t v) : RT w' B' locs' t v := by
 cases t with
 | one a => exact RA.later l hl h
 | agg cs => exact RC.later l hl h
 | tup ts =>
  obtain ⟨vs, h1, h2, h3⟩ := h
  exact ⟨vs, h1, h2, fun i b cs hx => by obtain ⟨u, hu, hr⟩ := h3 i b cs hx; exact ⟨u, hu, RC.later l hl hr⟩⟩
 | und => trivial
def kid : Nat → Nat → Option Nat := fun s c => (kids.find? fun p => p.1 == s && p.2.1 == c).map fun p => p.2.2
where
 kids : List (Nat × Nat × Nat) := [(1, 4, 1), (2, 9, 2), (3, 18, 2), (4, 0, 0), (5, 3, 0), (5, 4, 5), (5, 6, 0), (5, 7, 0), (6, 1, 0)]
structure Parts (S : Nat → Prop) (b : Nat) (SS : Nat → Nat → Nat → Prop) : Prop where
 sub : ∀ i j x, SS i j x → S x ∧ x ≠ b
 apart : ∀ i j i' j' x, SS i j x → SS i' j' x → i = i' ∧ j = j'
inductive TR (w : World) (B : Nat → Prop) : Nat → (Nat → Prop) → FV → Value → Prop where
 | nil (s : Nat) (S : Nat → Prop) (sz : Nat) (a : Option Addr) : TR w B s S (.sl sz []) (.slice a 0 0)
 | row (s : Nat) (S : Nat → Prop) (sz : Nat) (es : List (List FV)) (b off cap cp : Nat) (c : Array Value) (ty : TypeId) (SS : Nat → Nat → Nat → Prop) (cv : Nat → Nat → Value)
   (hb : S b) (hh : w.heap[b]? = some (.cells c ty (0, 0))) (hc : off + cap * sz ≤ c.size) (hl : es.length ≤ cp) (hp : cp ≤ cap) (hs : Parts S b SS)
   (he : ∀ (i : Nat) (e : List FV), es[i]? = some e → e.length = sz)
   (hv : ∀ (i : Nat) (e : List FV) (j : Nat) (x : FV), es[i]? = some e → e[j]? = some x → c[off + i * sz + j]? = some (cv i j))
   (hf : ∀ (i : Nat) (e : List FV) (j : Nat) (x : FV), es[i]? = some e → e[j]? = some x → kid s j = none → RF w B x (cv i j))
   (ht : ∀ (i : Nat) (e : List FV) (j : Nat) (x : FV) (s' : Nat), es[i]? = some e → e[j]? = some x → kid s j = some s' → TR w B s' (SS i j) x (cv i j)) :
   TR w B s S (.sl sz es) (.slice (some ⟨b, off, none⟩) es.length cp)
theorem TR.later {w : World} {B : Nat → Prop} {w' : World} {B' : Nat → Prop} (l : Later w B w' B') {s : Nat} {S S' : Nat → Prop} (hS : ∀ b, S b → S' b) {x : FV} {v : Value} (h : TR w B s S x v)
  (hb : ∀ b, S b → w'.heap[b]? = w.heap[b]?) : TR w' B' s S' x v := by
 induction h generalizing S' with
 | nil s S sz a => exact .nil s S' sz a
 | row s S sz es b off cap cp c ty SS cv hb1 hh hc hl hp hs he hv hf ht ih =>
  exact .row s S' sz es b off cap cp c ty SS cv (hS b hb1) (by rw [hb b hb1]; exact hh) hc hl hp ⟨fun i j x hx => ⟨hS x (hs.sub i j x hx).1, (hs.sub i j x hx).2⟩, hs.apart⟩ he hv
   (fun i e j x h1 h2 h3 => (hf i e j x h1 h2 h3).later l) (fun i e j x s' h1 h2 h3 => ih i e j x s' h1 h2 h3 (fun _ h => h) (fun b hb' => hb b (hs.sub i j b hb').1))
theorem TR.frz {w : World} {B B' : Nat → Prop} (l : Later w B w B') {s : Nat} {S : Nat → Prop} {x : FV} {v : Value} (h : TR w B s S x v) (hb : ∀ b, S b → ¬ B' b) : RF w B' x v := by
 induction h with
 | nil s S sz a => exact .slN sz a 0
 | row s S sz es b off cap cp c ty SS cv hb1 hh hc hl hp hs he hv hf ht ih =>
  refine .sl es b off cp sz cv (fun i e j x h1 h2 => hb b hb1) hl he (fun i e j x h1 h2 => by simp [World.cell?, hh, hv i e j x h1 h2]) (fun i e j x h1 h2 => ?_)
  cases hk : kid s j with
  | none => exact (hf i e j x h1 h2 hk).later l
  | some s' => exact ih i e j x s' h1 h2 hk (fun b hb' => hb b (hs.sub i j b hb').1)
def inN (n : Option Nat) (i : Nat) : Prop := ∀ k, n = some k → i < k
def CR (w : World) (B : Nat → Prop) (locs : Nat → Option Loc) (s : Nat) (n : Option Nat) (fo : Option (Nat × Nat × Nat)) (SS : Nat → Nat → Nat → Prop) (i j : Nat) (x : FV) (v : Value) : Prop :=
 match kid s j with
 | none => RF w B x v
 | some s' => (¬ inN n i ∧ (∀ o, fo ≠ some (i, j, o)) ∧ RF w B x v) ∨ (inN n i ∧ ((∃ o sz, fo = some (i, j, o) ∧ RA w B locs (.ofl sz o) v) ∨ ((∀ o, fo ≠ some (i, j, o)) ∧ TR w B s' (SS i j) x v)))
def RepOb (P : Program) (w : World) (B : Nat → Prop) (locs : Nat → Option Loc) (S : Nat → Prop) (l : Loc) : Ob → Prop
 | .no => True
 | .rs => False
 | .f et sz es => l.sz = sz ∧ l.len = es.length ∧ ((es = [] ∧ l.a = none ∧ l.cap = 0) ∨ ∃ b off c ty, l.a = some ⟨b, off, none⟩ ∧ w.heap[b]? = some (.cells c ty (0, 0)) ∧ (et = 0 ∨ ty = et) ∧
   off + l.cap * sz ≤ c.size ∧ es.length ≤ l.cap ∧ ∀ (i : Nat) (e : List FV), es[i]? = some e → e.length = sz ∧ ∀ (j : Nat) (x : FV), e[j]? = some x → ∃ v, c[off + i * sz + j]? = some v ∧ RF w B x v)
 | .z sz es => l.sz = sz ∧ l.len = es.length ∧ (es = [] ∨ ∃ b off, l.a = some ⟨b, off, none⟩ ∧ ∀ (i : Nat) (e : List FV), es[i]? = some e → e.length = sz ∧ ∀ (j : Nat) (x : FV), e[j]? = some x →
   ¬ B b ∧ ∃ v, w.cell? ⟨b, off + i * sz + j, none⟩ = some v ∧ RF w B x v)
 | .g gt cs => (l.sz = cs.length ∧ l.len = 1) ∧ ∃ b c, l.a = some ⟨b, 0, none⟩ ∧ w.heap[b]? = some (.cells c gt (0, 0)) ∧ c.size = cs.length ∧
   ∀ (j : Nat) (x : AV), cs[j]? = some x → ∃ v, c[j]? = some v ∧ RA w B locs x v
 | .r s et sz es n fo => l.sz = sz ∧ l.len = es.length ∧ ((es = [] ∧ l.a = none ∧ l.cap = 0) ∨ ∃ b off c ty SS, l.a = some ⟨b, off, none⟩ ∧ w.heap[b]? = some (.cells c ty (0, 0)) ∧ (et = 0 ∨ ty = et) ∧
   off + l.cap * sz ≤ c.size ∧ es.length ≤ l.cap ∧ Parts S b SS ∧ ∀ (i : Nat) (e : List FV), es[i]? = some e → e.length = sz ∧ ∀ (j : Nat) (x : FV), e[j]? = some x → ∃ v, c[off + i * sz + j]? = some v ∧ CR w B locs s n fo SS i j x v)
def Ob.live : Ob → Bool
 | .f .. | .g .. | .r .. => true
 | _ => false
def ownB (locs : Locs) (h : List Ob) (b : Nat) : Prop :=
 ∃ (o : Nat) (l : Loc) (d : Addr) (ob : Ob), h[o]? = some ob ∧ ob.live = true ∧ locs o = some l ∧ locs.hs o l d ∧ d.block = b
structure Since (w0 : World) (own0 : Nat → Prop) (w : World) : Prop where
 size : w0.heap.size ≤ w.heap.size
 block : ∀ b, b < w0.heap.size → ¬ own0 b → w.heap[b]? = w0.heap[b]?
 os : w.os = w0.os
 tape : w.tape = w0.tape
 output : w.output = w0.output
theorem Since.refl (w : World) (own0 : Nat → Prop) : Since w own0 w := ⟨Nat.le_refl _, fun _ _ _ => rfl, rfl, rfl, rfl⟩
def Bar (ext : Nat → Prop) (locs : Locs) (h : List Ob) (b : Nat) : Prop := ext b ∨ ownB locs h b
def tabs : List (Nat × List FV) := [(0, [FV.str (ByteArray.mk #[35, 44, 64]), FV.int .i64 6, FV.str (ByteArray.mk #[117, 110, 115, 121, 110, 116, 97, 120, 45, 115, 112, 108, 105, 99, 105, 110, 103]), FV.str (ByteArray.mk #[35, 40]), FV.int .i64 3, FV.str (ByteArray.mk #[]), FV.str (ByteArray.mk #[35, 59]), FV.int .i64 5, FV.str (ByteArray.mk #[]), FV.str (ByteArray.mk #[35, 39]), FV.int .i64 6, FV.str (ByteArray.mk #[115, 121, 110, 116, 97, 120]), FV.str (ByteArray.mk #[35, 96]), FV.int .i64 6, FV.str (ByteArray.mk #[113, 117, 97, 115, 105, 115, 121, 110, 116, 97, 120]), FV.str (ByteArray.mk #[35, 44]), FV.int .i64 6, FV.str (ByteArray.mk #[117, 110, 115, 121, 110, 116, 97, 120]), FV.str (ByteArray.mk #[44, 64]), FV.int .i64 6, FV.str (ByteArray.mk #[117, 110, 113, 117, 111, 116, 101, 45, 115, 112, 108, 105, 99, 105, 110, 103]), FV.str (ByteArray.mk #[40]), FV.int .i64 1, FV.str (ByteArray.mk #[]), FV.str (ByteArray.mk #[41]), FV.int .i64 2, FV.str (ByteArray.mk #[]), FV.str (ByteArray.mk #[39]), FV.int .i64 6, FV.str (ByteArray.mk #[113, 117, 111, 116, 101]), FV.str (ByteArray.mk #[96]), FV.int .i64 6, FV.str (ByteArray.mk #[113, 117, 97, 115, 105, 113, 117, 111, 116, 101]), FV.str (ByteArray.mk #[44]), FV.int .i64 6, FV.str (ByteArray.mk #[117, 110, 113, 117, 111, 116, 101])]), (1, [FV.int .i64 32, FV.str (ByteArray.mk #[115, 112, 97, 99, 101]), FV.int .i64 10, FV.str (ByteArray.mk #[110, 101, 119, 108, 105, 110, 101]), FV.int .i64 9, FV.str (ByteArray.mk #[116, 97, 98]), FV.int .i64 13, FV.str (ByteArray.mk #[114, 101, 116, 117, 114, 110]), FV.int .i64 0, FV.str (ByteArray.mk #[110, 117, 108, 108]), FV.int .i64 127, FV.str (ByteArray.mk #[100, 101, 108, 101, 116, 101])]), (2, (List.range 256).map fun c => FV.int .u8 ((Go.Lib.firstT c : Nat) : Int)), (3, ((List.range 16).map fun i => [FV.int .u8 ((Go.Lib.accLo i : Nat) : Int), FV.int .u8 ((Go.Lib.accHi i : Nat) : Int)]).flatten), (4, (List.range 20).map fun i => FV.int .u64 ((10 ^ i : Nat) : Int)), (6, [FV.ifc true]), (7, [FV.ifc true]), (9, [0, 1, 56, 2, 57, 49, 28, 3, 61, 58, 42, 50, 38, 29, 17, 4, 62, 47, 59, 36, 45, 43, 51, 22, 53, 39, 33, 30, 24, 18, 12, 5, 63, 55, 48, 27, 60, 41, 37, 16, 46, 35, 44, 21, 52, 32, 23, 11, 54, 26, 40, 15, 34, 20, 31, 10, 25, 14, 19, 9, 13, 8, 7, 6].map fun i => FV.int .u8 i)]
def isTab (b : Nat) : Prop := ∃ x ∈ tabs, x.1 = b
def TabAt (w : World) (B : Nat → Prop) (g : Nat) (fs : List FV) : Prop :=
 ∃ c t z, w.heap[g]? = some (.cells c t z) ∧ c.size = fs.length ∧ ∀ (j : Nat) (f : FV), fs[j]? = some f → ∃ v, c[j]? = some v ∧ RF w B f v
def Glob (w : World) : Prop := ∀ x ∈ tabs, TabAt w (fun _ => True) x.1 x.2
theorem TabAt.lt {w : World} {B : Nat → Prop} {g : Nat} {fs : List FV} (h : TabAt w B g fs) : g < w.heap.size := by
 obtain ⟨c, t, z, h1, _⟩ := h
 rcases Nat.lt_or_ge g w.heap.size with h' | h'
 ·exact h'
 ·rw [Array.getElem?_eq_none h'] at h1; cases h1
theorem TabAt.later {w : World} {B : Nat → Prop} {w' : World} {B' : Nat → Prop} (l : Later w B w' B') {g : Nat} {fs : List FV} (h : TabAt w B g fs) (hg : w'.heap[g]? = w.heap[g]?) : TabAt w' B' g fs := by
 obtain ⟨c, t, z, h1, h2, h3⟩ := h
 exact ⟨c, t, z, hg.trans h1, h2, fun j f hf => by obtain ⟨v, hv, hr⟩ := h3 j f hf; exact ⟨v, hv, hr.later l⟩⟩
theorem Later.all (w w' : World) (B : Nat → Prop) : Later w (fun _ => True) w' B := ⟨fun _ _ h => absurd trivial h, fun _ _ _ => trivial⟩
theorem Glob.step {w w' : World} (h : Glob w) (hb : ∀ b, isTab b → w'.heap[b]? = w.heap[b]?) : Glob w' :=
 fun x hx => (h x hx).later (Later.all _ _ _) (hb _ ⟨x, hx, rfl⟩)
theorem Glob.lt {w : World} (h : Glob w) {b : Nat} (hb : isTab b) : b < w.heap.size := by
 obtain ⟨x, hx, rfl⟩ := hb; exact (h x hx).lt
structure Base (P : Program) (ext : Nat → Prop) (w0 : World) (own0 : Nat → Prop) : Prop where
 glob : Glob w0
 own : ∀ b, own0 b → ¬ isTab b
 ext : ∀ b, ext b → ¬ isTab b
structure Own0 where
 b : Nat → Prop
 pin : Nat → Option Loc
 df : List Deferred
structure RepH (P : Program) (ext : Nat → Prop) (w0 : World) (own0 : Own0) (locs : Locs) (h : List Ob) (w : World) : Prop where
 len : ∀ o, h.length ≤ o → locs o = none
 ob : ∀ (o : Nat) (ob : Ob), h[o]? = some ob → ob = .no ∨ (ob = .rs ∧ locs o = none) ∨ ∃ l, locs o = some l ∧ RepOb P w (Bar ext locs h) locs (locs.own o) l ob
 apart : ∀ (o o' : Nat) (l l' : Loc) (ob ob' : Ob) (d d' : Addr), o ≠ o' → h[o]? = some ob → h[o']? = some ob' → ob.live = true → ob'.live = true → locs o = some l → locs o' = some l' → locs.hs o l d → locs.hs o' l' d' → d.block ≠ d'.block
 extOwn : ∀ b, ext b → ¬ ownB locs h b
 extlt : ∀ b, ext b → b < w.heap.size
 ownOld : ∀ b, b < w0.heap.size → ownB locs h b → own0.b b
 since : Since w0 own0.b w
 base : Base P ext w0 own0.b
 pins : ∀ (o : Nat) (x : Loc), own0.pin o = some x → locs o = some x
 ownlt : ∀ (o b : Nat), locs.own o b → b < w.heap.size
theorem RepH.glob {P : Program} {ext : Nat → Prop} {w0 : World} {own0 : Own0} {locs : Locs} {h : List Ob} {w : World} (H : RepH P ext w0 own0 locs h w) : Glob w :=
 H.base.glob.step fun b hb => H.since.block b (H.base.glob.lt hb) (fun ho => H.base.own b ho hb)
theorem RepH.ownTab {P : Program} {ext : Nat → Prop} {w0 : World} {own0 : Own0} {locs : Locs} {h : List Ob} {w : World} (H : RepH P ext w0 own0 locs h w) (b : Nat) (hb : ownB locs h b) : ¬ isTab b := fun ht =>
 H.base.own b (H.ownOld b (H.base.glob.lt ht) hb) ht
theorem RepH.barTab {P : Program} {ext : Nat → Prop} {w0 : World} {own0 : Own0} {locs : Locs} {h : List Ob} {w : World} (H : RepH P ext w0 own0 locs h w) (b : Nat) (hb : Bar ext locs h b) : ¬ isTab b :=
 hb.elim (H.base.ext b) (H.ownTab b)
theorem RepH.baseAt {P : Program} {ext : Nat → Prop} {w0 : World} {own0 : Own0} {locs : Locs} {h : List Ob} {w : World} (H : RepH P ext w0 own0 locs h w) {ext' own' : Nat → Prop} (hh : ∀ b, own' b → ¬ isTab b) (he : ∀ b, ext' b → ¬ isTab b) : Base P ext' w own' :=
 ⟨H.glob, hh, he⟩
structure Rep (P : Program) (ext : Nat → Prop) (w0 : World) (own0 : Own0) (st : St) (a : Act) (w : World) : Prop where
 defers : a.defers = own0.df
 size : a.tmps.size = st.t.length
 mem : ∃ locs : Locs, RepH P ext w0 own0 locs st.h w ∧ ∀ (i : Nat) (t : TV), st.t[i]? = some t → ∃ v, a.tmps[i]? = some v ∧ RT w (Bar ext locs st.h) locs t v
end
section
def cv1 : Value → AV
 | .bool b => .kb b
 | .int k n => .fz (.int k n)
 | .string s => .fz (.str s)
 | .pointer none => .fz .nilp
 | .slice none 0 0 => .nsl 0
 | .nilFunc => .fz .nilf
 | .nilIface => .fz (.ifc false)
 | _ => .und
def cv : Value → TV
 | .agg cs => .agg (cs.toList.map cv1)
 | .tuple _ => .und
 | v => .one (cv1 v)
def ev (t : List TV) : Operand → TV
 | .tmp i => t.getD i .und
 | .const v => cv v
 | .global g => match tabs.lookup g with
  | some fs => .one (.fz (.fp fs))
  | none => .und
 | .func f => .one (.fz (.fn f []))
theorem cv1_rep (w : World) (B : Nat → Prop) (locs : Nat → Option Loc) (v : Value) : RA w B locs (cv1 v) v := by
 unfold cv1
 split <;> first | trivial | exact RF.int _ _ | exact RF.str _ | exact RF.nilp | exact RF.nilf | exact RF.ifcN | exact ⟨_, rfl⟩ | rfl
theorem cv_rep (w : World) (B : Nat → Prop) (locs : Nat → Option Loc) (v : Value) : RT w B locs (cv v) v := by
 unfold cv
 split
 ·rename_i cs
  refine ⟨cs.toList, by simp [mkV], by simp, by simp, fun j x hx => ?_⟩
  simp only [List.getElem?_map, Option.map_eq_some_iff] at hx
  obtain ⟨u, hu, rfl⟩ := hx
  exact ⟨u, hu, cv1_rep w B locs u⟩
 ·trivial
 ·exact cv1_rep w B locs _
theorem fn0_rep (w : World) (B : Nat → Prop) (locs : Nat → Option Loc) (f : FuncId) : RT w B locs (.one (.fz (.fn f []))) (.func (.func f) #[] #[]) :=
 RF.fn f [] (fun _ => []) #[] rfl (by simp) (by simp)
structure RepT (w : World) (B : Nat → Prop) (locs : Nat → Option Loc) (t : List TV) (a : Act) : Prop where
 tab : ∀ x ∈ tabs, TabAt w B x.1 x.2 ∧ ¬ B x.1
 slot : ∀ (i : Nat) (x : TV), t[i]? = some x → ∃ v, a.tmps[i]? = some v ∧ RT w B locs x v
instance {w : World} {B : Nat → Prop} {locs : Nat → Option Loc} {t : List TV} {a : Act} : CoeFun (RepT w B locs t a) fun _ => ∀ (i : Nat) (x : TV), t[i]? = some x → ∃ v, a.tmps[i]? = some v ∧ RT w B locs x v := ⟨RepT.slot⟩
theorem tab_mem : ∀ {l : List (Nat × List FV)} {g : Nat} {fs : List FV}, l.lookup g = some fs → (g, fs) ∈ l
 | [], g, fs, h => by cases h
 | (k, x) :: l, g, fs, h => by
  rw [List.lookup_cons] at h
  split at h
  ·rename_i e
   cases h
   have : g = k := by simpa using e
   subst this
   exact List.mem_cons_self
  ·exact List.mem_cons_of_mem _ (tab_mem h)
theorem ev_rep {w : World} {B : Nat → Prop} {locs : Nat → Option Loc} {t : List TV} {a : Act} (h : RepT w B locs t a) (x : Operand) : RT w B locs (ev t x) (a.eval x) := by
 cases x with
 | tmp i =>
  simp only [ev, Act.eval, List.getD_eq_getElem?_getD]
  cases ht : t[i]? with
  | none => trivial
  | some x => obtain ⟨v, hv, hr⟩ := h i x ht; simpa [hv] using hr
 | const v => exact cv_rep w B locs v
 | global g =>
  simp only [ev]
  split
  ·rename_i fs hg
   obtain ⟨⟨c, t, z, h1, h2, h3⟩, h4⟩ := h.tab _ (tab_mem hg)
   refine RF.fp fs g 0 (fun j => (c[j]?).getD undef) (fun _ _ _ => h4) (fun j x hx => ?_) (fun j x hx => ?_)
   ·obtain ⟨v, hv, _⟩ := h3 j x hx
    simp only at h1
    simp [World.cell?, h1, hv]
   ·obtain ⟨v, hv, hr⟩ := h3 j x hx
    simpa [hv] using hr
  ·trivial
 | func f => exact fn0_rep w B locs f
section inv
variable {w : World} {B : Nat → Prop} {locs : Nat → Option Loc} {v : Value}
theorem inv_int {k : IntKind} {n : Int} (h : RT w B locs (.one (.fz (.int k n))) v) : v = .int k n := by cases h; rfl
theorem inv_str {s : ByteArray} (h : RT w B locs (.one (.fz (.str s))) v) : v = .string s := by cases h; rfl
theorem inv_nilp (h : RT w B locs (.one (.fz .nilp)) v) : v = .pointer none := by cases h; rfl
def bO : TV → Option Bool
 | .one (.kb b) => some b
 | .one (.fz (.bool b)) => some b
 | _ => none
theorem inv_bool {x : TV} {b : Bool} (hx : bO x = some b) (h : RT w B locs x v) : v = .bool b := by
 unfold bO at hx
 split at hx
 ·cases hx; exact h
 ·cases hx; cases h; rfl
 ·cases hx
end inv
def evInt (op : BinOp) (k k' : IntKind) (a b : Int) (K : TV → Prop) : Prop :=
 match op with
 | .shl => 0 ≤ b ∧ K (.one (.fz (.int k (k.wrap (a * 2 ^ (min b.toNat k.bits))))))
 | .shr => 0 ≤ b ∧ K (.one (.fz (.int k (a.fdiv (2 ^ (min b.toNat k.bits))))))
 | _ => if k = k' then
  match op with
  | .add => K (.one (.fz (.int k (k.wrap (a + b)))))
  | .sub => K (.one (.fz (.int k (k.wrap (a - b)))))
  | .mul => K (.one (.fz (.int k (k.wrap (a * b)))))
  | .quo => b ≠ 0 ∧ K (.one (.fz (.int k (k.wrap (a.tdiv b)))))
  | .rem => b ≠ 0 ∧ K (.one (.fz (.int k (a.tmod b))))
  | .and => K (.one (.fz (.int k (k.wrap (BitVec.ofInt k.bits a &&& BitVec.ofInt k.bits b).toNat))))
  | .or => K (.one (.fz (.int k (k.wrap (BitVec.ofInt k.bits a ||| BitVec.ofInt k.bits b).toNat))))
  | .xor => K (.one (.fz (.int k (k.wrap (BitVec.ofInt k.bits a ^^^ BitVec.ofInt k.bits b).toNat))))
  | .eql => K (.one (.fz (.bool (a == b))))
  | .neq => K (.one (.fz (.bool (a != b))))
  | .lss => K (.one (.fz (.bool (a < b))))
  | .leq => K (.one (.fz (.bool (a ≤ b))))
  | .gtr => K (.one (.fz (.bool (b < a))))
  | .geq => K (.one (.fz (.bool (b ≤ a))))
  | _ => False
  else False
def evStr (op : BinOp) (a b : ByteArray) (K : TV → Prop) : Prop :=
 match op with
 | .add => a.size + b.size ≤ 9223372036854775807 ∧ K (.one (.fz (.str (a ++ b))))
 | .eql => K (.one (.fz (.bool (a.toList == b.toList))))
 | .neq => K (.one (.fz (.bool (!(a.toList == b.toList)))))
 | .lss => K (.one (.fz (.bool (Op.bytesLess a.toList b.toList))))
 | .leq => K (.one (.fz (.bool (Op.bytesLess a.toList b.toList || a.toList == b.toList))))
 | .gtr => K (.one (.fz (.bool (!(Op.bytesLess a.toList b.toList || a.toList == b.toList)))))
 | .geq => K (.one (.fz (.bool (!(Op.bytesLess a.toList b.toList)))))
 | _ => False
def nilS : TV → Option Prop
 | .one (.nsl _) => some True
 | .one (.fz (.sl _ es)) => some (es = [])
 | .one (.ofl _ _) => some True
 | _ => none
def eqK (op : BinOp) (b : Bool) (K : TV → Prop) : Prop :=
 match op with
 | .eql => K (.one (.fz (.bool b)))
 | .neq => K (.one (.fz (.bool (!b))))
 | _ => False
def isTy (P : Program) (t : TypeId) (f : TypeDesc → Bool) : Bool :=
 match P.underlying t with
 | some d => f d
 | none => false
def evBin (P : Program) (op : BinOp) (ty : TypeId) (yo : Operand) (x y : TV) (K : TV → Prop) : Prop :=
 match x, y with
 | .one (.fz (.int k a)), .one (.fz (.int k' b)) => evInt op k k' a b K
 | .one (.fz (.str a)), .one (.fz (.str b)) => evStr op a b K
 | x, y =>
  match yo with
  | .const (.slice none 0 0) => if isTy P ty (fun | .slice _ => true | _ => false) then
    match nilS x with
    | some p => (p → (if op = .eql ∨ op = .neq then K (.one .ub) else False)) ∧ (¬ p → eqK op false K)
    | none => False
   else False
  | .const .nilIface => if isTy P ty (fun | .interface _ => true | _ => false) then
    match x with
    | .one (.fz (.ifc b)) => eqK op (!b) K
    | .one (.fz (.ifv _ _ _)) => eqK op false K
    | _ => False
   else False
  | .const (.pointer none) => if isTy P ty (fun | .pointer _ => true | _ => false) then
    match x with
    | .one (.fz .nilp) => eqK op true K
    | .one (.fz (.fp _)) => eqK op false K
    | .one (.ptr _ _ _ _) => eqK op false K
    | _ => False
   else False
  | _ => if isTy P ty (fun | .bool => true | _ => false) then
    match bO x, bO y with
    | some a, some b => eqK op (a == b) K
    | _, _ => False
   else False
def PureOK (P : Program) (o : Oper) (t : List TV) (v : TV) : Prop :=
 ∀ (w : World) (B : Nat → Prop) (locs : Nat → Option Loc) (a : Act), RepT w B locs t a → ∃ vc, (execOp a.eval o).run P w = .ok (.value vc) w ∧ RT w B locs v vc
theorem evInt_ok {op : BinOp} {k k' : IntKind} {a b : Int} {K : TV → Prop} (h : evInt op k k' a b K) : ∃ v, K v ∧ ∀ (P : Program) (ty : TypeId) (w : World) (B : Nat → Prop) (locs : Nat → Option Loc) (xo yo : Operand),
  ∃ vc, (do eqGuard op ty xo yo (.int k a) (.int k' b); binOp op ty (.int k a) (.int k' b) : Sem Value).run P w = .ok vc w ∧ RT w B locs v vc := by
 unfold evInt at h
 split at h
 ·obtain ⟨h0, h1⟩ := h
  exact ⟨_, h1, fun P ty w B locs xo yo => ⟨_, by simp [eqGuard, binOp, Op.shift, show ¬ b < 0 by omega], RF.int _ _⟩⟩
 ·obtain ⟨h0, h1⟩ := h
  exact ⟨_, h1, fun P ty w B locs xo yo => ⟨_, by simp [eqGuard, binOp, Op.shift, show ¬ b < 0 by omega], RF.int _ _⟩⟩
 ·split at h
  ·rename_i hk
   subst hk
   split at h
   case h_4 => obtain ⟨h0, h1⟩ := h; exact ⟨_, h1, fun P ty w B locs xo yo => ⟨_, by simp [eqGuard, binOp, Op.intDiv, h0], RF.int _ _⟩⟩
   case h_5 => obtain ⟨h0, h1⟩ := h; exact ⟨_, h1, fun P ty w B locs xo yo => ⟨_, by simp [eqGuard, binOp, Op.intDiv, h0], RF.int _ _⟩⟩
   case h_15 => exact h.elim
   all_goals exact ⟨_, h, fun P ty w B locs xo yo => ⟨_, by simp [eqGuard, binOp, Op.intArith, Op.intBits, Op.intCmp]; rfl, by first | exact RF.int _ _ | exact RF.bool _⟩⟩
  ·exact h.elim
theorem evStr_ok {op : BinOp} {a b : ByteArray} {K : TV → Prop} (h : evStr op a b K) : ∃ v, K v ∧ ∀ (P : Program) (ty : TypeId) (w : World) (B : Nat → Prop) (locs : Nat → Option Loc) (xo yo : Operand),
  ∃ vc, (do eqGuard op ty xo yo (.string a) (.string b); binOp op ty (.string a) (.string b) : Sem Value).run P w = .ok vc w ∧ RT w B locs v vc := by
 unfold evStr at h
 split at h
 case h_1 =>
  obtain ⟨h0, h1⟩ := h
  have h2 : ¬ (((a.size + b.size : Nat) : Int) > IntKind.i64.max) := by simp [IntKind.max, IntKind.signed, IntKind.bits]; omega
  exact ⟨_, h1, fun P ty w B locs xo yo => ⟨_, by simp only [eqGuard, binOp, Op.stringOp, if_neg h2]; simp, RF.str _⟩⟩
 case h_8 => exact h.elim
 all_goals exact ⟨_, h, fun P ty w B locs xo yo => ⟨_, by simp [eqGuard, binOp, Op.stringOp], RF.bool _⟩⟩
theorem eqK_ok {op : BinOp} {b : Bool} {K : TV → Prop} (h : eqK op b K) : (op = .eql ∧ K (.one (.fz (.bool b)))) ∨ (op = .neq ∧ K (.one (.fz (.bool (!b))))) := by
 unfold eqK at h
 split at h
 ·exact .inl ⟨rfl, h⟩
 ·exact .inr ⟨rfl, h⟩
 ·exact h.elim
theorem isTy_ok {P : Program} {t : TypeId} {f : TypeDesc → Bool} (h : isTy P t f = true) : ∃ d, P.underlying t = some d ∧ f d = true := by
 unfold isTy at h
 split at h
 ·exact ⟨_, ‹_›, h⟩
 ·cases h
theorem run_underlying {P : Program} {t : TypeId} {d : TypeDesc} (h : P.underlying t = some d) (w : World) : (underlying t).run P w = .ok d w := by
 simp [underlying, program, Sem.run, bind, Sem.bind, h]
theorem run_equal_bool {P : Program} {t : TypeId} (h : P.underlying t = some .bool) (a b : Bool) (w : World) : (Op.equal t (.bool a) (.bool b)).run P w = .ok (a == b) w := by
 obtain ⟨d, hd⟩ : ∃ d, Op.maxDepth = d + 1 := ⟨9999, rfl⟩
 simp [Op.equal, hd, Op.equalIn, run_underlying h]
theorem run_equal_slnil {P : Program} {t e : TypeId} (h : P.underlying t = some (.slice e)) (a : Option Addr) (n c : Nat) (w : World) : (Op.equal t (.slice a n c) (.slice none 0 0)).run P w = .ok a.isNone w := by
 obtain ⟨d, hd⟩ : ∃ d, Op.maxDepth = d + 1 := ⟨9999, rfl⟩
 cases a <;> simp [Op.equal, hd, Op.equalIn, run_underlying h]
theorem run_equal_nil2 {P : Program} {t : TypeId} {ms : Array (String × TypeId)} (h : P.underlying t = some (.interface ms)) (w : World) : (Op.equal t .nilIface .nilIface).run P w = .ok true w := by
 obtain ⟨d, hd⟩ : ∃ d, Op.maxDepth = d + 1 := ⟨9999, rfl⟩
 simp [Op.equal, hd, Op.equalIn, run_underlying h]
theorem run_equal_ifnil {P : Program} {t u : TypeId} {v : Value} {ms : Array (String × TypeId)} (h : P.underlying t = some (.interface ms)) (w : World) : (Op.equal t (.iface u v) .nilIface).run P w = .ok false w := by
 obtain ⟨d, hd⟩ : ∃ d, Op.maxDepth = d + 1 := ⟨9999, rfl⟩
 simp [Op.equal, hd, Op.equalIn, run_underlying h]
theorem run_equal_pnil {P : Program} {t e : TypeId} (h : P.underlying t = some (.pointer e)) (a : Option Addr) (w : World) : (Op.equal t (.pointer a) (.pointer none)).run P w = .ok a.isNone w := by
 obtain ⟨d, hd⟩ : ∃ d, Op.maxDepth = d + 1 := ⟨9999, rfl⟩
 cases a <;> simp [Op.equal, hd, Op.equalIn, run_underlying h]
theorem nilS_slice {w : World} {B : Nat → Prop} {locs : Nat → Option Loc} {x : TV} {v : Value} {p : Prop} (hp : nilS x = some p) (h : RT w B locs x v) : ∃ a n c, v = .slice a n c := by
 unfold nilS at hp
 split at hp
 ·obtain ⟨a, rfl⟩ := h; exact ⟨_, _, _, rfl⟩
 ·cases h <;> exact ⟨_, _, _, rfl⟩
 ·obtain ⟨l, a, c, h1, h2, rfl, h3⟩ := h; exact ⟨_, _, _, rfl⟩
 ·cases hp
theorem nilS_some {w : World} {B : Nat → Prop} {locs : Nat → Option Loc} {x : TV} {v : Value} {p : Prop} (hp : nilS x = some p) (hpp : ¬ p) (h : RT w B locs x v) : ∃ a n c, v = .slice (some a) n c := by
 unfold nilS at hp
 split at hp
 ·cases hp; exact absurd trivial hpp
 ·cases hp
  cases h
  ·exact absurd rfl hpp
  ·exact ⟨_, _, _, rfl⟩
 ·cases hp; exact absurd trivial hpp
 ·cases hp
theorem evBin_ok {P : Program} {op : BinOp} {ty : TypeId} {xo yo : Operand} {t : List TV} {K : TV → Prop} (h : evBin P op ty yo (ev t xo) (ev t yo) K) :
  ∃ v, K v ∧ ∀ (w : World) (B : Nat → Prop) (locs : Nat → Option Loc) (a : Act), RepT w B locs t a →
   ∃ vc, (do eqGuard op ty xo yo (a.eval xo) (a.eval yo); binOp op ty (a.eval xo) (a.eval yo) : Sem Value).run P w = .ok vc w ∧ RT w B locs v vc := by
 unfold evBin at h
 split at h
 ·rename_i k a k' b hx hy
  obtain ⟨v, hk, hv⟩ := evInt_ok h
  refine ⟨v, hk, fun w B locs ac hr => ?_⟩
  have e1 : ac.eval xo = .int k a := inv_int (B := B) (locs := locs) (w := w) (by rw [← hx]; exact ev_rep hr xo)
  have e2 : ac.eval yo = .int k' b := inv_int (B := B) (locs := locs) (w := w) (by rw [← hy]; exact ev_rep hr yo)
  rw [e1, e2]
  exact hv P ty w B locs xo yo
 ·rename_i a b hx hy
  obtain ⟨v, hk, hv⟩ := evStr_ok h
  refine ⟨v, hk, fun w B locs ac hr => ?_⟩
  have e1 : ac.eval xo = .string a := inv_str (B := B) (locs := locs) (w := w) (by rw [← hx]; exact ev_rep hr xo)
  have e2 : ac.eval yo = .string b := inv_str (B := B) (locs := locs) (w := w) (by rw [← hy]; exact ev_rep hr yo)
  rw [e1, e2]
  exact hv P ty w B locs xo yo
 ·split at h
  ·
   split at h
   ·rename_i hty
    obtain ⟨d, hd, hf⟩ := isTy_ok hty
    split at h
    ·rename_i p hp
     have hsl : ∃ e, d = .slice e := by cases d <;> simp_all
     obtain ⟨e, rfl⟩ := hsl
     by_cases hpp : p
     ·have h1 := h.1 hpp
      split at h1
      ·rename_i hop
       refine ⟨_, h1, fun w B locs ac hr => ?_⟩
       obtain ⟨q, n, c, hq⟩ := nilS_slice hp (ev_rep hr xo)
       rw [hq]
       rcases hop with rfl | rfl
       ·exact ⟨_, by simp [eqGuard, binOp, run_equal_slnil hd, Act.eval]; rfl, _, rfl⟩
       ·exact ⟨_, by simp [eqGuard, binOp, run_equal_slnil hd, Act.eval]; rfl, _, rfl⟩
      ·exact h1.elim
     ·have h1 := h.2 hpp
      rcases eqK_ok h1 with ⟨rfl, h2⟩ | ⟨rfl, h2⟩
      ·refine ⟨_, h2, fun w B locs ac hr => ?_⟩
       obtain ⟨q, n, c, hq⟩ := nilS_some hp hpp (ev_rep hr xo)
       rw [hq]
       exact ⟨_, by simp [eqGuard, binOp, run_equal_slnil hd, Act.eval], RF.bool _⟩
      ·refine ⟨_, h2, fun w B locs ac hr => ?_⟩
       obtain ⟨q, n, c, hq⟩ := nilS_some hp hpp (ev_rep hr xo)
       rw [hq]
       exact ⟨_, by simp [eqGuard, binOp, run_equal_slnil hd, Act.eval], RF.bool _⟩
    ·exact h.elim
   ·exact h.elim
  ·split at h
   ·rename_i hty
    obtain ⟨d, hd, hf⟩ := isTy_ok hty
    split at h
    ·rename_i b hx
     have hsl : ∃ e, d = .interface e := by cases d <;> simp_all
     obtain ⟨e, rfl⟩ := hsl
     rcases eqK_ok h with ⟨rfl, h2⟩ | ⟨rfl, h2⟩
     ·refine ⟨_, h2, fun w B locs ac hr => ?_⟩
      have e1 := ev_rep hr xo
      rw [hx] at e1
      generalize ac.eval xo = v at e1
      cases e1
      ·exact ⟨_, by simp [eqGuard, binOp, run_equal_nil2 hd, run_equal_ifnil hd, Act.eval], RF.bool _⟩
      ·exact ⟨_, by simp [eqGuard, binOp, run_equal_nil2 hd, run_equal_ifnil hd, Act.eval], RF.bool _⟩
     ·refine ⟨_, h2, fun w B locs ac hr => ?_⟩
      have e1 := ev_rep hr xo
      rw [hx] at e1
      generalize ac.eval xo = v at e1
      cases e1
      ·exact ⟨_, by simp [eqGuard, binOp, run_equal_nil2 hd, run_equal_ifnil hd, Act.eval], RF.bool _⟩
      ·exact ⟨_, by simp [eqGuard, binOp, run_equal_nil2 hd, run_equal_ifnil hd, Act.eval], RF.bool _⟩
    ·rename_i u b cs hx
     have hsl : ∃ e, d = .interface e := by cases d <;> simp_all
     obtain ⟨e, rfl⟩ := hsl
     rcases eqK_ok h with ⟨rfl, h2⟩ | ⟨rfl, h2⟩
     ·refine ⟨_, h2, fun w B locs ac hr => ?_⟩
      have e1 := ev_rep hr xo
      rw [hx] at e1
      generalize ac.eval xo = v at e1
      cases e1
      exact ⟨_, by simp [eqGuard, binOp, run_equal_ifnil hd, Act.eval], RF.bool _⟩
     ·refine ⟨_, h2, fun w B locs ac hr => ?_⟩
      have e1 := ev_rep hr xo
      rw [hx] at e1
      generalize ac.eval xo = v at e1
      cases e1
      exact ⟨_, by simp [eqGuard, binOp, run_equal_ifnil hd, Act.eval], RF.bool _⟩
    ·exact h.elim
   ·exact h.elim
  ·split at h
   ·rename_i hty
    obtain ⟨d, hd, hf⟩ := isTy_ok hty
    have hsl : ∃ e, d = .pointer e := by cases d <;> simp_all
    obtain ⟨e, rfl⟩ := hsl
    have fin : ∀ (b : Bool), (∀ (w : World) (B : Nat → Prop) (locs : Nat → Option Loc) (ac : Act), RepT w B locs t ac → ∃ q : Option Addr, ac.eval xo = .pointer q ∧ q.isNone = b) → eqK op b K →
      ∃ v, K v ∧ ∀ (w : World) (B : Nat → Prop) (locs : Nat → Option Loc) (a : Act), RepT w B locs t a →
       ∃ vc, (do eqGuard op ty xo (.const (.pointer none)) (a.eval xo) (a.eval (.const (.pointer none))); binOp op ty (a.eval xo) (a.eval (.const (.pointer none))) : Sem Value).run P w = .ok vc w ∧ RT w B locs v vc := fun b hb h => by
     rcases eqK_ok h with ⟨rfl, h2⟩ | ⟨rfl, h2⟩
     ·refine ⟨_, h2, fun w B locs ac hr => ?_⟩
      obtain ⟨q, hq, hqb⟩ := hb w B locs ac hr
      rw [hq, ← hqb]
      exact ⟨_, by simp [eqGuard, binOp, run_equal_pnil hd, Act.eval], RF.bool _⟩
     ·refine ⟨_, h2, fun w B locs ac hr => ?_⟩
      obtain ⟨q, hq, hqb⟩ := hb w B locs ac hr
      rw [hq, ← hqb]
      exact ⟨_, by simp [eqGuard, binOp, run_equal_pnil hd, Act.eval], RF.bool _⟩
    split at h
    ·rename_i hx
     refine fin true (fun w B locs ac hr => ?_) h
     have e1 := ev_rep hr xo
     rw [hx] at e1
     exact ⟨none, inv_nilp e1, rfl⟩
    ·rename_i cs hx
     refine fin false (fun w B locs ac hr => ?_) h
     have e1 := ev_rep hr xo
     rw [hx] at e1
     generalize ac.eval xo = v at e1
     cases e1
     exact ⟨_, rfl, rfl⟩
    ·rename_i o2 e2 c2 ty2 hx
     refine fin false (fun w B locs ac hr => ?_) h
     have e1 := ev_rep hr xo
     rw [hx] at e1
     obtain ⟨l, d2, _, _, hv⟩ := e1
     exact ⟨_, hv, rfl⟩
    ·exact h.elim
   ·exact h.elim
  ·split at h
   ·rename_i hty
    obtain ⟨d, hd, hf⟩ := isTy_ok hty
    split at h
    ·rename_i x y hx hy
     have hsl : d = .bool := by cases d <;> simp_all
     subst hsl
     rcases eqK_ok h with ⟨rfl, h2⟩ | ⟨rfl, h2⟩
     ·refine ⟨_, h2, fun w B locs ac hr => ?_⟩
      rw [inv_bool hx (ev_rep hr xo), inv_bool hy (ev_rep hr yo)]
      exact ⟨_, by simp [eqGuard, binOp, run_equal_bool hd], RF.bool _⟩
     ·refine ⟨_, h2, fun w B locs ac hr => ?_⟩
      rw [inv_bool hx (ev_rep hr xo), inv_bool hy (ev_rep hr yo)]
      exact ⟨_, by simp [eqGuard, binOp, run_equal_bool hd], RF.bool _⟩
    ·exact h.elim
   ·exact h.elim
end
section
inductive CK where
 | int (k : IntKind)
 | bool
 | str
 | sl (sz : Nat)
 | ifc
 | x
 deriving Inhabited
def kindsF (P : Program) : Nat → TypeId → List CK
 | 0, _ => [.x]
 | n + 1, t =>
  match P.underlying t with
  | some (.int k) => [.int k]
  | some .bool => [.bool]
  | some .string => [.str]
  | some (.slice e) => [.sl (P.cellsOf e)]
  | some (.interface _) => [.ifc]
  | some (.struct fs) => (fs.toList.map fun f => kindsF P n f.type).flatten
  | some (.array len e) => (List.replicate len (kindsF P n e)).flatten
  | _ => [.x]
def kinds (P : Program) (t : TypeId) : List CK := kindsF P 6 t
def exC : List CK → (List FV → Prop) → Prop
 | [], K => K []
 | .int k :: r, K => ∃ n : Int, exC r fun l => K (.int k n :: l)
 | .bool :: r, K => ∃ b : Bool, exC r fun l => K (.bool b :: l)
 | .str :: r, K => ∃ s : ByteArray, exC r fun l => K (.str s :: l)
 | .sl sz :: r, K => ∃ es : List (List FV), exC r fun l => K (.sl sz es :: l)
 | .ifc :: r, K => ∃ b : Bool, exC r fun l => K (.ifc b :: l)
 | .x :: r, K => ∃ v : FV, exC r fun l => K (v :: l)
theorem exC_out : ∀ {ks : List CK} {K : List FV → Prop}, exC ks K → ∃ cs, K cs
 | [], K, h => ⟨[], h⟩
 | .int k :: r, K, ⟨n, h⟩ => let ⟨cs, hc⟩ := exC_out h; ⟨_, hc⟩
 | .bool :: r, K, ⟨n, h⟩ => let ⟨cs, hc⟩ := exC_out h; ⟨_, hc⟩
 | .str :: r, K, ⟨n, h⟩ => let ⟨cs, hc⟩ := exC_out h; ⟨_, hc⟩
 | .sl sz :: r, K, ⟨n, h⟩ => let ⟨cs, hc⟩ := exC_out h; ⟨_, hc⟩
 | .ifc :: r, K, ⟨n, h⟩ => let ⟨cs, hc⟩ := exC_out h; ⟨_, hc⟩
 | .x :: r, K, ⟨n, h⟩ => let ⟨cs, hc⟩ := exC_out h; ⟨_, hc⟩
def fixN : List CK → List AV → List AV
 | .sl sz :: ks, .nsl 0 :: cs => .nsl sz :: fixN ks cs
 | _ :: ks, c :: cs => c :: fixN ks cs
 | [], cs => cs
 | _, [] => []
theorem fixN_ok {w : World} {B : Nat → Prop} {locs : Nat → Option Loc} : ∀ (ks : List CK) (cs : List AV), (fixN ks cs).length = cs.length ∧
  ∀ (j : Nat) (x : AV), (fixN ks cs)[j]? = some x → ∃ y, cs[j]? = some y ∧ ∀ v, RA w B locs y v → RA w B locs x v
 | [], cs => by cases cs <;> exact ⟨rfl, fun j x hx => ⟨x, hx, fun _ h => h⟩⟩
 | k :: ks, [] => by cases k <;> exact ⟨rfl, fun j x hx => ⟨x, hx, fun _ h => h⟩⟩
 | k :: ks, c :: cs => by
  obtain ⟨h1, h2⟩ := fixN_ok ks cs
  have key : fixN (k :: ks) (c :: cs) = c :: fixN ks cs ∨ ∃ sz, c = .nsl 0 ∧ fixN (k :: ks) (c :: cs) = .nsl sz :: fixN ks cs := by
   cases k with
   | sl sz =>
    cases c with
    | nsl n =>
     cases n with
     | zero => exact .inr ⟨sz, rfl, rfl⟩
     | succ n => exact .inl rfl
    | _ => exact .inl rfl
   | _ => exact .inl rfl
  rcases key with e | ⟨sz, rfl, e⟩
  ·rw [e]
   refine ⟨by simp [h1], fun j x hx => ?_⟩
   cases j with
   | zero => exact ⟨x, hx, fun _ h => h⟩
   | succ j => exact h2 j x hx
  ·rw [e]
   refine ⟨by simp [h1], fun j x hx => ?_⟩
   cases j with
   | zero => cases hx; exact ⟨_, rfl, fun _ h => h⟩
   | succ j => exact h2 j x hx
def fixT (P : Program) (t : TypeId) : TV → TV
 | .one a => .one ((fixN (kinds P t) [a]).headD a)
 | .agg cs => .agg (fixN (kinds P t) cs)
 | x => x
theorem fixT_ok {P : Program} {t : TypeId} {w : World} {B : Nat → Prop} {locs : Nat → Option Loc} {x : TV} {v : Value} (h : RT w B locs x v) : RT w B locs (fixT P t x) v := by
 cases x with
 | one a =>
  obtain ⟨h1, h2⟩ := fixN_ok (w := w) (B := B) (locs := locs) (kinds P t) [a]
  show RA w B locs ((fixN (kinds P t) [a]).headD a) v
  generalize fixN (kinds P t) [a] = l at h1 h2
  cases l with
  | nil => exact h
  | cons y ys =>
   obtain ⟨z, hz, hr⟩ := h2 0 y rfl
   cases hz
   exact hr v h
 | agg cs =>
  obtain ⟨h1, h2⟩ := fixN_ok (w := w) (B := B) (locs := locs) (kinds P t) cs
  obtain ⟨vs, h3, h4, h5, h6⟩ := h
  exact ⟨vs, h3, by rw [h4, h1], h5, fun j y hy => by
   obtain ⟨z, hz, hr⟩ := h2 j y hy
   obtain ⟨u, hu, hra⟩ := h6 j z hz
   exact ⟨u, hu, hr u hra⟩⟩
 | _ => exact h
def isAggB (P : Program) (t : TypeId) : Bool := isTy P t fun | .struct _ | .array _ _ => true | _ => false
theorem run_isAgg {P : Program} {t : TypeId} {d : TypeDesc} (h : P.underlying t = some d) (w : World) : (isAgg t).run P w = .ok (isAggB P t) w := by
 unfold isAgg
 simp only [Sem.run_bind, run_underlying h, Result.andThen, isAggB, isTy, h]
 cases d <;> rfl
theorem info_of_underlying {P : Program} {t : TypeId} {d : TypeDesc} (h : P.underlying t = some d) : ∃ i, P.info? t = some i := by
 unfold Program.underlying at h
 split at h
 ·exact ⟨_, ‹_›⟩
 ·exact ⟨_, ‹_›⟩
 ·cases h
theorem run_sizeOf {P : Program} {t : TypeId} {d : TypeDesc} (h : P.underlying t = some d) (w : World) : (sizeOf t).run P w = .ok (P.cellsOf t) w := by
 obtain ⟨i, hi⟩ := info_of_underlying h
 simp [sizeOf, typeInfo, program, Sem.run, bind, Sem.bind, hi, Program.cellsOf, pure]
def partK (P : Program) (t : TypeId) (off : Nat) (cs : List AV) (K : TV → Prop) : Prop :=
 match P.underlying t with
 | some _ => if isAggB P t then K (.agg ((cs.drop off).take (P.cellsOf t))) else
   match cs[off]? with
   | some a => K (.one a)
   | none => False
 | none => False
theorem agg_inv {w : World} {B : Nat → Prop} {locs : Nat → Option Loc} {cs : List AV} {v : Value} (h : RT w B locs (.agg cs) v) :
  ∃ vs : List Value, v = .agg vs.toArray ∧ vs.length = cs.length ∧ ∀ (j : Nat) (x : AV), cs[j]? = some x → ∃ u, vs[j]? = some u ∧ RA w B locs x u := by
 obtain ⟨vs, h1, h2, h3, h4⟩ := h
 exact ⟨vs, by simpa [mkV] using h1, h2, h4⟩
theorem agg_mk {w : World} {B : Nat → Prop} {locs : Nat → Option Loc} {cs : List AV} {vs : List Value} (h2 : vs.length = cs.length) (h4 : ∀ (j : Nat) (x : AV), cs[j]? = some x → ∃ u, vs[j]? = some u ∧ RA w B locs x u) :
  RT w B locs (.agg cs) (.agg vs.toArray) := ⟨vs, by simp [mkV], h2, by simp, h4⟩
theorem partK_ok {P : Program} {t : TypeId} {off : Nat} {cs : List AV} {K : TV → Prop} (h : partK P t off cs K) :
  ∃ v, K v ∧ ∀ (w : World) (B : Nat → Prop) (locs : Nat → Option Loc) (u : Value), RT w B locs (.agg cs) u → ∃ arr vc, u = .agg arr ∧ (part t arr off).run P w = .ok vc w ∧ RT w B locs v vc := by
 unfold partK at h
 split at h
 ·rename_i d hd
  split at h
  ·rename_i ha
   refine ⟨_, h, fun w B locs u hu => ?_⟩
   obtain ⟨vs, rfl, hl, hp⟩ := agg_inv hu
   refine ⟨_, .agg ((vs.drop off).take (P.cellsOf t)).toArray, rfl, ?_, ?_⟩
   ·simp only [part, Sem.run_bind, run_isAgg hd, Result.andThen, ha, if_true, run_sizeOf hd, Sem.run_pure]
    congr 2
    apply Array.ext'
    simp [List.extract_eq_take_drop]
   ·refine agg_mk (by simp [hl]) fun j x hx => ?_
    have hj : j < P.cellsOf t := by
     rcases Nat.lt_or_ge j (P.cellsOf t) with h' | h'
     ·exact h'
     ·simp [List.getElem?_take, Nat.not_lt.2 h'] at hx
    rw [List.getElem?_take_of_lt hj, List.getElem?_drop] at hx
    obtain ⟨q, hq, hr⟩ := hp _ _ hx
    exact ⟨q, by rw [List.getElem?_take_of_lt hj, List.getElem?_drop]; exact hq, hr⟩
  ·rename_i ha
   split at h
   ·rename_i a hca
    refine ⟨_, h, fun w B locs u hu => ?_⟩
    obtain ⟨vs, rfl, hl, hp⟩ := agg_inv hu
    obtain ⟨q, hq, hr⟩ := hp _ _ hca
    refine ⟨_, q, rfl, ?_, hr⟩
    simp only [part, Sem.run_bind, run_isAgg hd, Result.andThen, ha]
    simp [hq]
   ·exact h.elim
 ·exact h.elim
theorem add_mk (b off n : Nat) : (⟨b, off, none⟩ : Addr).add n = ⟨b, off + n, none⟩ := by
 unfold Addr.add
 split
 ·subst_vars; rfl
 ·rfl
end
section
def fieldOf (P : Program) (t : TypeId) (f : Nat) : Option Field :=
 match P.underlying t with
 | some (.struct fs) => fs[f]?
 | _ => none
theorem fieldOf_ok {P : Program} {t : TypeId} {f : Nat} {d : Field} (h : fieldOf P t f = some d) : ∃ fs, P.underlying t = some (.struct fs) ∧ fs[f]? = some d := by
 unfold fieldOf at h
 split at h
 ·exact ⟨_, ‹_›, h⟩
 ·cases h
def bytesOf (ns : List Int) : ByteArray := ⟨(ns.map fun n => UInt8.ofNat n.toNat).toArray⟩
theorem foldl_push (ns : List Int) : ∀ (s : ByteArray), (ns.foldl (fun r n => r.push (UInt8.ofNat n.toNat)) s).data = s.data ++ (ns.map fun n => UInt8.ofNat n.toNat).toArray := by
 induction ns with
 | nil => intro s; simp
 | cons n ns ih =>
  intro s
  simp only [List.foldl_cons, ih]
  apply Array.ext'
  simp [ByteArray.push]
theorem foldl_bytes (ns : List Int) : ns.foldl (fun r n => r.push (UInt8.ofNat n.toNat)) ByteArray.empty = bytesOf ns := by
 have h := foldl_push ns ByteArray.empty
 unfold bytesOf
 cases hs : ns.foldl (fun r n => r.push (UInt8.ofNat n.toNat)) ByteArray.empty
 rw [hs] at h
 simp only at h
 subst h
 congr 1
 apply Array.ext'
 simp [ByteArray.empty, ByteArray.emptyWithCapacity]
 rfl
def frz1 : AV → Option FV
 | .fz v => some v
 | .kb b => some (.bool b)
 | .nsl sz => some (.sl sz [])
 | _ => none
def frzL : List AV → Option (List FV)
 | [] => some []
 | a :: r => match frz1 a with
  | some v => match frzL r with
   | some l => some (v :: l)
   | none => none
  | none => none
def frzT : TV → Option (Bool × List FV)
 | .one a => match frz1 a with | some v => some (false, [v]) | none => none
 | .agg cs => match frzL cs with | some l => some (true, l) | none => none
 | _ => none
def frzTs : List TV → Option (List (Bool × List FV))
 | [] => some []
 | a :: r => match frzT a with
  | some v => match frzTs r with
   | some l => some (v :: l)
   | none => none
  | none => none
section
variable {w : World} {B : Nat → Prop} {locs : Nat → Option Loc}
theorem frz1_ok {a : AV} {v : FV} (h : frz1 a = some v) {u : Value} (hu : RA w B locs a u) : RF w B v u := by
 unfold frz1 at h
 split at h
 ·cases h; exact hu
 ·cases h; cases hu; exact .bool _
 ·cases h; obtain ⟨q, rfl⟩ := hu; exact .slN _ q 0
 ·cases h
theorem frzL_ok : ∀ {cs : List AV} {l : List FV}, frzL cs = some l → l.length = cs.length ∧ ∀ (vs : List Value), (∀ (j : Nat) (x : AV), cs[j]? = some x → ∃ u, vs[j]? = some u ∧ RA w B locs x u) → ∀ (j : Nat) (x : FV), l[j]? = some x → ∃ u, vs[j]? = some u ∧ RF w B x u
 | [], l, h => by cases h; exact ⟨rfl, by simp⟩
 | a :: r, l, h => by
  unfold frzL at h
  split at h
  ·rename_i v hv
   split at h
   ·rename_i l' hl'
    cases h
    obtain ⟨h1, h2⟩ := frzL_ok hl'
    refine ⟨by simp [h1], fun vs hvs j x hx => ?_⟩
    cases j with
    | zero => cases hx; obtain ⟨u, hu, hr⟩ := hvs 0 a rfl; exact ⟨u, hu, frz1_ok hv hr⟩
    | succ j =>
     obtain ⟨u, hu, hr⟩ := h2 (vs.drop 1) (fun j x hx => by obtain ⟨u, hu, hr⟩ := hvs (j + 1) x hx; exact ⟨u, by rw [List.getElem?_drop, Nat.add_comm]; exact hu, hr⟩) j x hx
     exact ⟨u, by rw [List.getElem?_drop, Nat.add_comm] at hu; exact hu, hr⟩
   ·cases h
  ·cases h
theorem frzT_ok {t : TV} {b : Bool} {l : List FV} (h : frzT t = some (b, l)) {u : Value} (hu : RT w B locs t u) :
  ∃ vs : List Value, u = mkV b vs ∧ vs.length = l.length ∧ (b = false → vs.length = 1) ∧ ∀ (j : Nat) (x : FV) , l[j]? = some x → ∃ v, vs[j]? = some v ∧ RF w B x v := by
 unfold frzT at h
 split at h
 ·split at h
  ·rename_i a v hv
   cases h
   refine ⟨[u], rfl, rfl, fun _ => rfl, fun j x hx => ?_⟩
   cases j with
   | zero => cases hx; exact ⟨u, rfl, frz1_ok hv hu⟩
   | succ j => simp at hx
  ·cases h
 ·split at h
  ·rename_i cs l' hl
   cases h
   obtain ⟨vs, h1, h2, h3, h4⟩ := hu
   obtain ⟨h5, h6⟩ := frzL_ok (w := w) (B := B) (locs := locs) hl
   exact ⟨vs, h1, by rw [h2, h5], h3, h6 vs h4⟩
  ·cases h
 ·cases h
end
def cellsT : TV → Option (List AV)
 | .one .und => none
 | .one a => some [a]
 | .agg cs => some cs
 | _ => none
def AV.sure : AV → Bool
 | .und => false
 | _ => true
theorem RA.cells {w : World} {B : Nat → Prop} {locs : Nat → Option Loc} {a : AV} {v : Value} (hs : a.sure = true) (h : RA w B locs a v) : v.cells = #[v] ∧ v.oneCell' = true := by
 cases a with
 | und => cases hs
 | fz x => cases h <;> exact ⟨rfl, rfl⟩
 | kb b => cases h; exact ⟨rfl, rfl⟩
 | ub => obtain ⟨b, rfl⟩ := h; exact ⟨rfl, rfl⟩
 | nsl sz => obtain ⟨q, rfl⟩ := h; exact ⟨rfl, rfl⟩
 | ofl sz o => obtain ⟨l, a, c, h1, h2, rfl, h3⟩ := h; exact ⟨rfl, rfl⟩
 | ptr o e c ty => obtain ⟨l, d, h1, h2, rfl⟩ := h; exact ⟨rfl, rfl⟩
theorem cellsT_ok {w : World} {B : Nat → Prop} {locs : Nat → Option Loc} {t : TV} {cs : List AV} (h : cellsT t = some cs) {v : Value} (hv : RT w B locs t v) :
  v.cells.size = cs.length ∧ ∀ (j : Nat) (x : AV), cs[j]? = some x → ∃ u, v.cells[j]? = some u ∧ RA w B locs x u := by
 unfold cellsT at h
 split at h
 ·cases h
 ·rename_i a ha
  cases h
  have hs : a.sure = true := by cases a <;> first | rfl | exact absurd rfl ha
  have hc := (RA.cells hs hv).1
  rw [hc]
  refine ⟨rfl, fun j x hx => ?_⟩
  cases j with
  | zero => cases hx; exact ⟨v, rfl, hv⟩
  | succ j => simp at hx
 ·cases h
  obtain ⟨vs, rfl, hl, hp⟩ := agg_inv hv
  exact ⟨by simpa [Value.cells] using hl, fun j x hx => by obtain ⟨u, hu, hr⟩ := hp j x hx; exact ⟨u, by simpa [Value.cells] using hu, hr⟩⟩
 ·cases h
def brB (v : TV) (f : Bool → Prop) : Prop :=
 match v with
 | .one (.kb true) => f true
 | .one (.kb false) => f false
 | .one (.fz (.bool b)) => (b = true → f true) ∧ (b = false → f false)
 | _ => False
theorem brB_ok {v : TV} {f : Bool → Prop} (h : brB v f) : ∃ b, f b ∧ bO v = some b := by
 unfold brB at h
 split at h
 ·exact ⟨true, h, rfl⟩
 ·exact ⟨false, h, rfl⟩
 ·rename_i b
  cases b
  ·exact ⟨false, h.2 rfl, rfl⟩
  ·exact ⟨true, h.1 rfl, rfl⟩
 ·exact h.elim
def evUn (op : UnOp) (x : TV) (K : TV → Prop) : Prop :=
 match op, x with
 | .neg, .one (.fz (.int k n)) => K (.one (.fz (.int k (k.wrap (0 - n)))))
 | .xor, .one (.fz (.int k n)) => K (.one (.fz (.int k (k.wrap (BitVec.ofInt k.bits (if k.signed then -1 else k.max) ^^^ BitVec.ofInt k.bits n).toNat))))
 | .not, .one (.kb b) => K (.one (.kb (!b)))
 | .not, .one (.fz (.bool b)) => K (.one (.fz (.bool (!b))))
 | _, _ => False
def evConv (P : Program) (src dst : TypeId) (x : TV) (K : TV → Prop) : Prop :=
 match P.underlying src, P.underlying dst, x with
 | some _, some (.int k), .one (.fz (.int _ n)) => K (.one (.fz (.int k (k.wrap n))))
 | some _, some .string, .one (.fz (.str s)) => K (.one (.fz (.str s)))
 | some _, some .string, .one (.fz (.int _ n)) => K (.one (.fz (.str (Utf8.encode n))))
 | some (.slice e), some .string, .one (.fz (.sl _ es)) => if isTy P e (fun | .int .u8 => true | _ => false) then ∃ ns : List Int, es = ns.map (fun n => [FV.int .u8 n]) ∧ K (.one (.fz (.str (bytesOf ns)))) else False
 | _, _, _ => False
def evExtract (x : TV) (i : Nat) (K : TV → Prop) : Prop :=
 match x with
 | .tup ts =>
  match ts[i]? with
  | some (false, [a]) => K (.one a)
  | some (true, cs) => K (.agg cs)
  | _ => False
 | _ => False
def evField (P : Program) (ty : TypeId) (x : TV) (f : Nat) (K : TV → Prop) : Prop :=
 match x, fieldOf P ty f with
 | .agg cs, some fd => partK P fd.type fd.offset cs K
 | _, _ => False
def cutT (cs : List AV) (k sz : Nat) (l : List FV) : Prop := (cs.drop k).take sz = l.map .fz
def evIndex (P : Program) (ty : TypeId) (x i : TV) (K : TV → Prop) : Prop :=
 match x, i with
 | .one (.fz (.str s)), .one (.fz (.int _ n)) => if isTy P ty (fun | .string => true | _ => false) then 0 ≤ n ∧ ∃ b : UInt8, s.data[n.toNat]? = some b ∧ K (.one (.fz (.int .u8 (b.toNat : Int)))) else False
 | .agg cs, .one (.fz (.int _ n)) =>
  match P.underlying ty with
  | some (.array len e) =>
   match P.underlying e with
   | some _ => (0 ≤ n ∧ n < (len : Int)) ∧ exC (kinds P e) fun l => cutT cs (n.toNat * P.cellsOf e) (if isAggB P e = true then P.cellsOf e else 1) l ∧ (if isAggB P e = true then K (.agg (l.map .fz)) else match l with | [a] => K (.one (.fz a)) | _ => False)
   | none => False
  | _ => False
 | _, _ => False
def evFieldAddr (P : Program) (ty : TypeId) (x : TV) (f : Nat) (K : TV → Prop) : Prop :=
 match x, fieldOf P ty f with
 | .one (.ptr o e c ty'), some fd => if P.underlying fd.type ≠ none ∧ P.cellsOf fd.type ≠ 0 then K (.one (.ptr o e (c + fd.offset) ty')) else False
 | .one (.fz (.fp cs)), some fd => if P.underlying fd.type ≠ none ∧ P.cellsOf fd.type ≠ 0 then K (.one (.fz (.fp (cs.drop fd.offset)))) else False
 | _, _ => False
def evIndexAddr (P : Program) (ty : TypeId) (x i : TV) (K : TV → Prop) : Prop :=
 match P.underlying ty, x, i with
 | some (.slice e), .one (.fz (.sl sz es)), .one (.fz (.int _ n)) =>
  if P.underlying e ≠ none ∧ P.cellsOf e = sz then 0 ≤ n ∧ exC (kinds P e) fun cs => es[n.toNat]? = some cs ∧ K (.one (.fz (.fp cs))) else False
 | _, _, _ => False
def evLen (P : Program) (ty : TypeId) (x : TV) (K : TV → Prop) : Prop :=
 match P.underlying ty, x with
 | some .string, .one (.fz (.str s)) => K (.one (.fz (.int .i64 (s.size : Int))))
 | some (.slice _), .one (.fz (.sl _ es)) => K (.one (.fz (.int .i64 (es.length : Int))))
 | some (.slice _), .one (.nsl _) => K (.one (.fz (.int .i64 0)))
 | _, _ => False
def evCap (P : Program) (ty : TypeId) (x : TV) (K : TV → Prop) : Prop :=
 match P.underlying ty, x with
 | some (.slice _), .one (.nsl _) => K (.one (.fz (.int .i64 0)))
 | _, _ => False
def evMax (x y : TV) (K : TV → Prop) : Prop :=
 match x, y with
 | .one (.fz (.int k a)), .one (.fz (.int _ b)) => K (.one (.fz (.int k (if b > a then b else a))))
 | _, _ => False
def evMin (x y : TV) (K : TV → Prop) : Prop :=
 match x, y with
 | .one (.fz (.int k a)), .one (.fz (.int _ b)) => K (.one (.fz (.int k (if b < a then b else a))))
 | _, _ => False
def bound (t : List TV) : Option Operand → Option (Option Int)
 | none => some none
 | some x => match ev t x with
  | .one (.fz (.int _ n)) => some (some n)
  | _ => none
def bndP (len : Int) : Option Int → Option Int → Option Int → Prop → Prop
 | none, none, none, p => p
 | some l, none, none, p => (0 ≤ l ∧ l ≤ len) ∧ p
 | none, some h, none, p => (0 ≤ h ∧ h ≤ len) ∧ p
 | some l, some h, none, p => (0 ≤ l ∧ l ≤ h ∧ h ≤ len) ∧ p
 | none, some h, some m, p => (0 ≤ h ∧ h ≤ m ∧ m ≤ len) ∧ p
 | some l, some h, some m, p => (0 ≤ l ∧ l ≤ h ∧ h ≤ m ∧ m ≤ len) ∧ p
 | _, none, some _, p => False
def loN : Option Int → Nat
 | some l => l.toNat
 | none => 0
def hiN (len : Nat) : Option Int → Nat
 | some h => h.toNat
 | none => len
def cutE (es : List (List FV)) : Option Int → Option Int → List (List FV)
 | none, none => es
 | some l, none => es.drop l.toNat
 | none, some h => es.take h.toNat
 | some l, some h => (es.take h.toNat).drop l.toNat
def evSlice (P : Program) (ty : TypeId) (x : TV) (lo hi mx : Option Int) (K : TV → Prop) : Prop :=
 match P.underlying ty, x with
 | some .string, .one (.fz (.str s)) =>
  match mx with
  | none => bndP s.size lo hi none (K (.one (.fz (.str (s.extract (loN lo) (hiN s.size hi))))))
  | some _ => False
 | some (.slice e), .one (.fz (.sl sz es)) =>
  if P.underlying e ≠ none ∧ P.cellsOf e = sz then
   bndP es.length lo hi mx (K (.one (.fz (.sl sz (cutE es lo hi)))))
  else False
 | some (.slice e), .one (.nsl sz) => if P.underlying e ≠ none then bndP 0 lo hi mx (K (.one (.nsl sz))) else False
 | _, _ => False
end
section
section
variable {P : Program}
theorem evUn_ok {op : UnOp} {x : TV} {K : TV → Prop} (h : evUn op x K) : ∃ v, K v ∧ ∀ (w : World) (B : Nat → Prop) (locs : Nat → Option Loc) (u : Value), RT w B locs x u → ∃ vc, (Op.unary op u).run P w = .ok vc w ∧ RT w B locs v vc := by
 unfold evUn at h
 split at h
 ·refine ⟨_, h, fun w B locs u hu => ?_⟩
  cases inv_int hu
  exact ⟨_, by simp [Op.unary, Op.intArith], RF.int _ _⟩
 ·refine ⟨_, h, fun w B locs u hu => ?_⟩
  cases inv_int hu
  exact ⟨_, by simp [Op.unary, Op.intBits], RF.int _ _⟩
 ·refine ⟨_, h, fun w B locs u hu => ?_⟩
  cases hu
  exact ⟨_, by simp [Op.unary], rfl⟩
 ·refine ⟨_, h, fun w B locs u hu => ?_⟩
  cases hu
  exact ⟨_, by simp [Op.unary], RF.bool _⟩
 ·exact h.elim
theorem run_bytes (w : World) (B : Nat → Prop) (locs : Nat → Option Loc) (sz : Nat) (ns : List Int) (u : Value) (h : RT w B locs (.one (.fz (.sl sz (ns.map fun n => [FV.int .u8 n])))) u) :
  ∃ a n c, u = .slice a n c ∧ (Conv.bytesToString u).run P w = .ok (.string (bytesOf ns)) w := by
 generalize hes : (ns.map fun n => [FV.int .u8 n]) = es at h
 cases h with
 | slN sz a c =>
  have hn : ns = [] := by simpa using hes
  subst hn
  refine ⟨a, 0, c, rfl, ?_⟩
  cases a with
  | none => rfl
  | some a => simp [Conv.bytesToString, loadCells, loadCellsFrom]; rfl
 | sl es b off c sz cv hb hc hsz h hr =>
  subst hes
  refine ⟨_, _, _, rfl, ?_⟩
  rw [← foldl_bytes]
  refine run_bytesToString (P := P) w ⟨b, off, none⟩ _ c ns ?_
  have hl : (ns.map fun n => [FV.int .u8 n]).length = (ns.map (Value.int .u8)).length := by simp
  rw [hl]
  refine run_loadCells_list (P := P) w _ _ fun j v hv => ?_
  simp only [List.getElem?_map, Option.map_eq_some_iff] at hv
  obtain ⟨n, hn, rfl⟩ := hv
  have he : (ns.map fun n => [FV.int .u8 n])[j]? = some [FV.int .u8 n] := by simp [hn]
  have h1 := h j _ 0 _ he rfl
  have h2 := hr j _ 0 _ he rfl
  have h3 := hsz j _ he
  simp only [List.length_singleton] at h3
  have h4 : cv j 0 = .int .u8 n := by generalize cv j 0 = q at h2; cases h2; rfl
  rw [add_mk]
  rw [← h3, h4] at h1
  simpa using h1
theorem evConv_ok {src dst : TypeId} {x : TV} {K : TV → Prop} (h : evConv P src dst x K) : ∃ v, K v ∧ ∀ (w : World) (B : Nat → Prop) (locs : Nat → Option Loc) (u : Value), RT w B locs x u → ∃ vc, (convert src dst u).run P w = .ok vc w ∧ RT w B locs v vc := by
 unfold evConv at h
 split at h
 ·rename_i h1 h2
  refine ⟨_, h, fun w B locs u hu => ?_⟩
  cases inv_int hu
  exact ⟨_, by simp [convert, run_underlying h1, run_underlying h2, Conv.intToInt], RF.int _ _⟩
 ·rename_i h1 h2
  refine ⟨_, h, fun w B locs u hu => ?_⟩
  cases inv_str hu
  exact ⟨_, by simp [convert, run_underlying h1, run_underlying h2], RF.str _⟩
 ·rename_i h1 h2
  refine ⟨_, h, fun w B locs u hu => ?_⟩
  cases inv_int hu
  exact ⟨_, by simp [convert, run_underlying h1, run_underlying h2, Conv.intToString], RF.str _⟩
 ·rename_i h1 h2
  split at h
  ·rename_i he
   obtain ⟨d, hd, hf⟩ := isTy_ok he
   have hd' : d = .int .u8 := by
    cases d with
    | int k => cases k <;> simp_all
    | _ => simp_all
   subst hd'
   obtain ⟨ns, rfl, hk⟩ := h
   refine ⟨_, hk, fun w B locs u hu => ?_⟩
   obtain ⟨a, n, c, rfl, hrun⟩ := run_bytes (P := P) w B locs _ ns u hu
   exact ⟨_, by rw [run_convert_bytes_string w src dst _ a n c h1 hd h2]; exact hrun, RF.str _⟩
  ·exact h.elim
 ·exact h.elim
theorem evExtract_ok {x : TV} {i : Nat} {K : TV → Prop} (h : evExtract x i K) : ∃ v, K v ∧ ∀ (w : World) (B : Nat → Prop) (locs : Nat → Option Loc) (u : Value), RT w B locs x u → ∃ vc, (Instr.extract u i).run P w = .ok vc w ∧ RT w B locs v vc := by
 unfold evExtract at h
 split at h
 ·split at h
  ·rename_i ts a ha
   refine ⟨_, h, fun w B locs u hu => ?_⟩
   obtain ⟨vs, rfl, hl, hp⟩ := hu
   obtain ⟨q, hq, us, rfl, h1, h2, h3⟩ := hp _ _ _ ha
   obtain ⟨r, hr, hra⟩ := h3 0 a rfl
   refine ⟨_, by simp [Instr.extract, hq]; rfl, ?_⟩
   cases us with
   | nil => simp at hr
   | cons y ys => cases hr; exact hra
  ·rename_i ts cs ha
   refine ⟨_, h, fun w B locs u hu => ?_⟩
   obtain ⟨vs, rfl, hl, hp⟩ := hu
   obtain ⟨q, hq, hr⟩ := hp _ _ _ ha
   exact ⟨q, by simp [Instr.extract, hq], hr⟩
  ·exact h.elim
 ·exact h.elim
theorem evField_ok {ty : TypeId} {x : TV} {f : Nat} {K : TV → Prop} (h : evField P ty x f K) : ∃ v, K v ∧ ∀ (w : World) (B : Nat → Prop) (locs : Nat → Option Loc) (u : Value), RT w B locs x u → ∃ vc, (Instr.field ty u f).run P w = .ok vc w ∧ RT w B locs v vc := by
 unfold evField at h
 split at h
 ·rename_i cs fd hf
  obtain ⟨fs, hfs, hfd⟩ := fieldOf_ok hf
  obtain ⟨v, hk, hv⟩ := partK_ok h
  refine ⟨v, hk, fun w B locs u hu => ?_⟩
  obtain ⟨arr, vc, rfl, hrun, hr⟩ := hv w B locs u hu
  exact ⟨vc, by simp [Instr.field, run_underlying hfs, hfd, asAgg, hrun], hr⟩
 ·exact h.elim
theorem evIndex_ok {ty : TypeId} {x i : TV} {K : TV → Prop} (h : evIndex P ty x i K) : ∃ v, K v ∧ ∀ (w : World) (B : Nat → Prop) (locs : Nat → Option Loc) (u ui : Value), RT w B locs x u → RT w B locs i ui → ∃ vc, (Instr.index ty u ui).run P w = .ok vc w ∧ RT w B locs v vc := by
 unfold evIndex at h
 split at h
 ·rename_i s k n
  split at h
  ·rename_i ht
   obtain ⟨d, hd, hf⟩ := isTy_ok ht
   have hd' : d = .string := by cases d <;> simp_all
   subst hd'
   obtain ⟨h0, b, hb, hk⟩ := h
   refine ⟨_, hk, fun w B locs u ui hu hi => ?_⟩
   cases inv_str hu
   cases inv_int hi
   have hlt : n.toNat < s.data.size := by
    rcases Nat.lt_or_ge n.toNat s.data.size with h' | h'
    ·exact h'
    ·simp [Array.getElem?_eq_none h'] at hb
   refine ⟨.int .u8 b.toNat, ?_, RF.int _ _⟩
   have hs : s[n.toNat]? = some b := by
    rw [← hb]
    have : n.toNat < s.size := hlt
    simp [this, hlt]
    rfl
   simp [Instr.index, asIntOf, run_underlying hd, h0, hs]
  ·exact h.elim
 ·rename_i cs k n
  split at h
  ·rename_i len e hd
   split at h
   ·rename_i d hde
    obtain ⟨⟨h0, h1⟩, h⟩ := h
    obtain ⟨l, hc, hk⟩ := exC_out h
    unfold cutT at hc
    have h2 : (0 : Int) ≤ n ∧ n < len := ⟨h0, h1⟩
    split at hk
    ·rename_i ha
     rw [if_pos ha] at hc
     refine ⟨_, hk, fun w B locs u ui hu hi => ?_⟩
     cases inv_int hi
     obtain ⟨vs, rfl, hl, hp⟩ := agg_inv hu
     refine ⟨.agg ((vs.drop (n.toNat * P.cellsOf e)).take (P.cellsOf e)).toArray, ?_, ?_⟩
     ·simp only [Instr.index, asIntOf, Sem.run_bind, Sem.run_pure, run_underlying hd, Result.andThen, if_pos h2, run_sizeOf hde, part, run_isAgg hde, ha, if_true]
      congr 2
      apply Array.ext'
      simp [List.extract_eq_take_drop]
     ·refine agg_mk (by rw [← hc]; simp [hl]) fun j x hx => ?_
      rw [← hc] at hx
      have hj : j < P.cellsOf e := by
       rcases Nat.lt_or_ge j (P.cellsOf e) with h' | h'
       ·exact h'
       ·simp [List.getElem?_take, Nat.not_lt.2 h'] at hx
      rw [List.getElem?_take_of_lt hj, List.getElem?_drop] at hx
      obtain ⟨q, hq, hr⟩ := hp _ _ hx
      exact ⟨q, by rw [List.getElem?_take_of_lt hj, List.getElem?_drop]; exact hq, hr⟩
    ·rename_i ha
     rw [if_neg ha] at hc
     split at hk
     ·rename_i a
      refine ⟨_, hk, fun w B locs u ui hu hi => ?_⟩
      cases inv_int hi
      obtain ⟨vs, rfl, hl, hp⟩ := agg_inv hu
      have hx : cs[n.toNat * P.cellsOf e]? = some (.fz a) := by
       have := congrArg (fun (l : List AV) => l[0]?) hc
       simpa [List.getElem?_take, List.getElem?_drop] using this
      obtain ⟨q, hq, hr⟩ := hp _ _ hx
      refine ⟨q, ?_, hr⟩
      simp only [Instr.index, asIntOf, Sem.run_bind, Sem.run_pure, run_underlying hd, Result.andThen, if_pos h2, run_sizeOf hde, part, run_isAgg hde, ha]
      simp [hq]
     ·exact hk.elim
   ·exact h.elim
  ·exact h.elim
 ·exact h.elim
theorem evFieldAddr_ok {ty : TypeId} {x : TV} {f : Nat} {K : TV → Prop} (h : evFieldAddr P ty x f K) : ∃ v, K v ∧ ∀ (w : World) (B : Nat → Prop) (locs : Nat → Option Loc) (u : Value), RT w B locs x u → ∃ vc, (Instr.fieldAt ty u f).run P w = .ok vc w ∧ RT w B locs v vc := by
 unfold evFieldAddr at h
 split at h
 ·rename_i o e c ty' fd hf
  obtain ⟨fs, hfs, hfd⟩ := fieldOf_ok hf
  split at h
  ·rename_i hz
   obtain ⟨d, hd⟩ := Option.ne_none_iff_exists'.1 hz.1
   refine ⟨_, h, fun w B locs u hu => ?_⟩
   obtain ⟨l, ad, h1, h2, rfl⟩ := hu
   refine ⟨_, by simp [Instr.fieldAt, run_underlying hfs, hfd, Instr.sureAddr, fieldPlace, run_sizeOf hd, hz.2, add_mk]; rfl, l, ad, h1, h2, ?_⟩
   rw [Nat.add_assoc]
  ·exact h.elim
 ·rename_i cs fd hf
  obtain ⟨fs, hfs, hfd⟩ := fieldOf_ok hf
  split at h
  ·rename_i hz
   obtain ⟨d, hd⟩ := Option.ne_none_iff_exists'.1 hz.1
   refine ⟨_, h, fun w B locs u hu => ?_⟩
   cases hu with
   | fp cs b off cv hb hc hr =>
    refine ⟨_, by simp [Instr.fieldAt, run_underlying hfs, hfd, Instr.sureAddr, fieldPlace, run_sizeOf hd, hz.2, add_mk]; rfl, ?_⟩
    exact RF.fp _ b (off + fd.offset) (fun j => cv (fd.offset + j)) (fun j x hx => hb _ x (by rwa [List.getElem?_drop] at hx))
     (fun j x hx => by rw [List.getElem?_drop] at hx; rw [Nat.add_assoc]; exact hc _ x hx) (fun j x hx => by rw [List.getElem?_drop] at hx; exact hr _ x hx)
  ·exact h.elim
 ·exact h.elim
theorem evIndexAddr_ok {ty : TypeId} {x i : TV} {K : TV → Prop} (h : evIndexAddr P ty x i K) : ∃ v, K v ∧ ∀ (w : World) (B : Nat → Prop) (locs : Nat → Option Loc) (u ui : Value), RT w B locs x u → RT w B locs i ui → ∃ vc, (Instr.indexAt ty u ui).run P w = .ok vc w ∧ RT w B locs v vc := by
 unfold evIndexAddr at h
 split at h
 ·rename_i e sz es k n ht
  split at h
  ·rename_i he
   obtain ⟨d, hd⟩ := Option.ne_none_iff_exists'.1 he.1
   obtain ⟨h0, hx⟩ := h
   obtain ⟨cs, hcs, hk⟩ := exC_out hx
   refine ⟨_, hk, fun w B locs u ui hu hi => ?_⟩
   cases inv_int hi
   have hlt : n.toNat < es.length := by
    rcases Nat.lt_or_ge n.toNat es.length with h' | h'
    ·exact h'
    ·simp [List.getElem?_eq_none h'] at hcs
   cases hu with
   | slN sz a c => simp at hlt
   | sl es b off c sz cv hb hc hsz hcell hr =>
    have hn : n < (es.length : Int) := by omega
    refine ⟨_, by simp [Instr.indexAt, run_underlying ht, asIntOf, h0, hn, run_sizeOf hd, add_mk]; rfl, ?_⟩
    rw [he.2]
    exact RF.fp cs b (off + n.toNat * sz) (cv n.toNat) (fun j x hx => hb _ _ _ _ hcs hx) (fun j x hx => hcell _ _ _ _ hcs hx) (fun j x hx => hr _ _ _ _ hcs hx)
  ·exact h.elim
 ·exact h.elim
theorem evLen_ok {ty rt : TypeId} {x : TV} {K : TV → Prop} (h : evLen P ty x K) : ∃ v, K v ∧ ∀ (w : World) (B : Nat → Prop) (locs : Nat → Option Loc) (u : Value), RT w B locs x u → ∃ vc, (Builtin.len_ #[ty] rt #[u]).run P w = .ok vc w ∧ RT w B locs v vc := by
 unfold evLen at h
 split at h
 ·rename_i ht
  refine ⟨_, h, fun w B locs u hu => ?_⟩
  cases inv_str hu
  exact ⟨_, by simp [Builtin.len_, run_underlying ht]; rfl, RF.int _ _⟩
 ·rename_i ht
  refine ⟨_, h, fun w B locs u hu => ?_⟩
  cases hu
  ·exact ⟨_, by simp [Builtin.len_, run_underlying ht]; rfl, RF.int _ _⟩
  ·exact ⟨_, by simp [Builtin.len_, run_underlying ht]; rfl, RF.int _ _⟩
 ·rename_i ht
  refine ⟨_, h, fun w B locs u hu => ?_⟩
  obtain ⟨a, rfl⟩ := hu
  exact ⟨_, by simp [Builtin.len_, run_underlying ht]; rfl, RF.int _ _⟩
 ·exact h.elim
theorem evCap_ok {ty rt : TypeId} {x : TV} {K : TV → Prop} (h : evCap P ty x K) : ∃ v, K v ∧ ∀ (w : World) (B : Nat → Prop) (locs : Nat → Option Loc) (u : Value), RT w B locs x u → ∃ vc, (Builtin.cap_ #[ty] rt #[u]).run P w = .ok vc w ∧ RT w B locs v vc := by
 unfold evCap at h
 split at h
 ·rename_i ht
  refine ⟨_, h, fun w B locs u hu => ?_⟩
  obtain ⟨a, rfl⟩ := hu
  exact ⟨_, by simp [Builtin.cap_, run_underlying ht]; rfl, RF.int _ _⟩
 ·exact h.elim
theorem evMax_ok {x y : TV} {K : TV → Prop} (h : evMax x y K) : ∃ v, K v ∧ ∀ (ts : Array TypeId) (rt : TypeId) (w : World) (B : Nat → Prop) (locs : Nat → Option Loc) (u ui : Value), RT w B locs x u → RT w B locs y ui → ∃ vc, (Builtin.max_ ts rt #[u, ui]).run P w = .ok vc w ∧ RT w B locs v vc := by
 unfold evMax at h
 split at h
 ·refine ⟨_, h, fun ts rt w B locs u ui hu hi => ?_⟩
  cases inv_int hu
  cases inv_int hi
  exact ⟨_, by simp [Builtin.max_, Builtin.max2], RF.int _ _⟩
 ·exact h.elim
theorem evMin_ok {x y : TV} {K : TV → Prop} (h : evMin x y K) : ∃ v, K v ∧ ∀ (ts : Array TypeId) (rt : TypeId) (w : World) (B : Nat → Prop) (locs : Nat → Option Loc) (u ui : Value), RT w B locs x u → RT w B locs y ui → ∃ vc, (Builtin.min_ ts rt #[u, ui]).run P w = .ok vc w ∧ RT w B locs v vc := by
 unfold evMin at h
 split at h
 ·refine ⟨_, h, fun ts rt w B locs u ui hu hi => ?_⟩
  cases inv_int hu
  cases inv_int hi
  exact ⟨_, by simp [Builtin.min_, Builtin.min2], RF.int _ _⟩
 ·exact h.elim
theorem bound_ok {t : List TV} {x : Option Operand} {r : Option Int} (h : bound t x = some r) {w : World} {B : Nat → Prop} {locs : Nat → Option Loc} {a : Act} (hr : RepT w B locs t a) :
  (r = none ∧ x = none) ∨ ∃ y k n, x = some y ∧ r = some n ∧ a.eval y = .int k n := by
 unfold bound at h
 cases x with
 | none => simp only at h; cases h; exact .inl ⟨rfl, rfl⟩
 | some y =>
  simp only at h
  split at h
  ·rename_i k n hy
   cases h
   exact .inr ⟨y, k, n, rfl, rfl, inv_int (B := B) (locs := locs) (w := w) (by rw [← hy]; exact ev_rep hr y)⟩
  ·cases h
theorem bndP_out {len : Int} {lo hi mx : Option Int} {K : Prop} (h : bndP len lo hi mx K) : K := by
 cases lo <;> cases hi <;> cases mx <;> first | exact h | exact h.2 | exact h.elim
theorem run_bounds {s : Bool} {len cap : Nat} {lo hi mx : Option Int} {K : Prop} (h : bndP len lo hi mx K) (hlc : len ≤ cap) {vl vh vm : Option Value}
  (hl : (lo = none ∧ vl = none) ∨ ∃ k n, lo = some n ∧ vl = some (.int k n)) (hh : (hi = none ∧ vh = none) ∨ ∃ k n, hi = some n ∧ vh = some (.int k n))
  (hm : (mx = none ∧ vm = none) ∨ ∃ k n, mx = some n ∧ vm = some (.int k n)) (w : World) :
  ∃ l h m : Nat, (Instr.sliceBounds s len cap vl vh vm).run P w = .ok (l, h, m) w ∧ l = loN lo ∧ h = hiN len hi ∧
   l ≤ h ∧ h ≤ len ∧ h ≤ m ∧ m ≤ cap ∧ K := by
 rcases hl with ⟨rfl, rfl⟩ | ⟨kl, l, rfl, rfl⟩ <;> rcases hh with ⟨rfl, rfl⟩ | ⟨kh, h', rfl, rfl⟩ <;> rcases hm with ⟨rfl, rfl⟩ | ⟨km, m, rfl, rfl⟩ <;> simp only [bndP] at h
 ·exact ⟨0, len, cap, by simp [Instr.sliceBounds], rfl, rfl, by omega, by omega, hlc, Nat.le_refl _, h⟩
 ·obtain ⟨⟨h1, h2⟩, hk⟩ := h
  have e1 := run_sliceBound (P := P) w kh h' cap (if s = true then .sliceAcap else .sliceAlen) h1 (by omega)
  exact ⟨0, h'.toNat, cap, by simp [Instr.sliceBounds, e1], rfl, rfl, by omega, by omega, by omega, Nat.le_refl _, hk⟩
 ·obtain ⟨⟨h1, h2, h3⟩, hk⟩ := h
  have em : (m.toNat : Int) = m := Int.toNat_of_nonneg (by omega)
  have e0 := run_sliceBound (P := P) w km m cap (if s = true then .slice3Acap else .slice3Alen) (by omega) (by omega)
  have e1 := run_sliceBound (P := P) w kh h' m.toNat .slice3B h1 (by omega)
  exact ⟨0, h'.toNat, m.toNat, by simp [Instr.sliceBounds, e0, e1], rfl, rfl, by omega, by omega, by omega, by omega, hk⟩
 ·obtain ⟨⟨h1, h2⟩, hk⟩ := h
  have e1 := run_sliceBound (P := P) w kl l len .sliceB h1 (by omega)
  exact ⟨l.toNat, len, cap, by simp [Instr.sliceBounds, e1], rfl, rfl, by omega, by omega, hlc, Nat.le_refl _, hk⟩
 ·obtain ⟨⟨h1, h2, h3⟩, hk⟩ := h
  have eh : (h'.toNat : Int) = h' := Int.toNat_of_nonneg (by omega)
  have e0 := run_sliceBound (P := P) w kh h' cap (if s = true then .sliceAcap else .sliceAlen) (by omega) (by omega)
  have e1 := run_sliceBound (P := P) w kl l h'.toNat .sliceB h1 (by omega)
  exact ⟨l.toNat, h'.toNat, cap, by simp [Instr.sliceBounds, e0, e1], rfl, rfl, by omega, by omega, by omega, Nat.le_refl _, hk⟩
 ·obtain ⟨⟨h1, h2, h3, h4⟩, hk⟩ := h
  have eh : (h'.toNat : Int) = h' := Int.toNat_of_nonneg (by omega)
  have em : (m.toNat : Int) = m := Int.toNat_of_nonneg (by omega)
  have e0 := run_sliceBound (P := P) w km m cap (if s = true then .slice3Acap else .slice3Alen) (by omega) (by omega)
  have e1 := run_sliceBound (P := P) w kh h' m.toNat .slice3B (by omega) (by omega)
  have e2 := run_sliceBound (P := P) w kl l h'.toNat .slice3C h1 (by omega)
  exact ⟨l.toNat, h'.toNat, m.toNat, by simp [Instr.sliceBounds, e0, e1, e2], rfl, rfl, by omega, by omega, by omega, by omega, hk⟩
theorem sl_part {w : World} {B : Nat → Prop} {sz : Nat} {es : List (List FV)} {a : Option Addr} {n c : Nat} (h : RF w B (.sl sz es) (.slice a n c)) (l h' m : Nat) (hlh : l ≤ h') (hhn : h' ≤ n) (hhm : h' ≤ m) (hmc : m ≤ c) :
  RF w B (.sl sz ((es.take h').drop l)) (.slice (if m = l then a else a.map (·.add (l * sz))) (h' - l) (m - l)) ∧ n = es.length := by
 cases h with
 | slN sz a c =>
  have : h' = 0 := by omega
  subst this
  have : l = 0 := by omega
  subst this
  simp only [List.take_nil, List.drop_nil, Nat.sub_zero]
  exact ⟨.slN _ _ _, rfl⟩
 | sl es b off c sz cv hb hc hsz hcell hr =>
  refine ⟨?_, rfl⟩
  have hlen : ((es.take h').drop l).length = h' - l := by simp; omega
  by_cases hlh2 : l = h'
  ·have he : (es.take h').drop l = [] := List.eq_nil_of_length_eq_zero (by omega)
   rw [he, show h' - l = 0 by omega]
   exact .slN _ _ _
  ·have hml : ¬ m = l := by omega
   rw [if_neg hml, Option.map_some, add_mk, ← hlen]
   have hget : ∀ i e, ((es.take h').drop l)[i]? = some e → es[l + i]? = some e := by
    intro i e he
    rw [List.getElem?_drop] at he
    rw [List.getElem?_take] at he
    split at he
    ·exact he
    ·cases he
   refine RF.sl _ b (off + l * sz) (m - l) sz (fun i j => cv (l + i) j) (fun i e j x h1 h2 => hb _ _ _ _ (hget i e h1) h2) (by omega) (fun i e h1 => hsz _ _ (hget i e h1))
    (fun i e j x h1 h2 => ?_) (fun i e j x h1 h2 => hr _ _ _ _ (hget i e h1) h2)
   rw [← hcell _ _ _ _ (hget i e h1) h2, Nat.add_mul, ← Nat.add_assoc]
theorem evSlice_ok {ty : TypeId} {x : TV} {lo hi mx : Option Int} {K : TV → Prop} (h : evSlice P ty x lo hi mx K) : ∃ v, K v ∧ ∀ (w : World) (B : Nat → Prop) (locs : Nat → Option Loc) (u : Value) (vl vh vm : Option Value),
  RT w B locs x u → ((lo = none ∧ vl = none) ∨ ∃ k n, lo = some n ∧ vl = some (.int k n)) → ((hi = none ∧ vh = none) ∨ ∃ k n, hi = some n ∧ vh = some (.int k n)) → ((mx = none ∧ vm = none) ∨ ∃ k n, mx = some n ∧ vm = some (.int k n)) →
  ∃ vc, (Instr.sliceAt ty u vl vh vm).run P w = .ok vc w ∧ RT w B locs v vc := by
 unfold evSlice at h
 split at h
 ·rename_i s ht
  split at h
  ·refine ⟨_, bndP_out h, fun w B locs u vl vh vm hu h1 h2 h3 => ?_⟩
   cases inv_str hu
   have hvm : vm = none := by rcases h3 with ⟨_, h3⟩ | ⟨_, _, h3, _⟩ <;> first | exact h3 | cases h3
   subst hvm
   obtain ⟨l, h', m, hrun, rfl, rfl, _⟩ := run_bounds (P := P) (s := false) h (Nat.le_refl _) h1 h2 (.inl ⟨rfl, rfl⟩) w
   exact ⟨_, by simp only [Instr.sliceAt, Sem.run_bind, run_underlying ht, Result.andThen, Instr.slice]; simp [run_underlying ht, hrun, Result.andThen], RF.str _⟩
  ·exact h.elim
 ·rename_i e sz es ht
  split at h
  ·rename_i he
   obtain ⟨d, hd⟩ := Option.ne_none_iff_exists'.1 he.1
   refine ⟨_, bndP_out h, fun w B locs u vl vh vm hu h1 h2 h3 => ?_⟩
   have hsl : ∃ a c, u = .slice a es.length c ∧ es.length ≤ c := by
    cases hu with
    | slN sz a c => exact ⟨a, c, rfl, Nat.zero_le _⟩
    | sl es b off c sz cv hb hc hsz hcell hr => exact ⟨_, c, rfl, hc⟩
   obtain ⟨a, c, rfl, hlc⟩ := hsl
   obtain ⟨l, h', m, hrun, hl, hh, hlh, hhl, hhm, hmc, _⟩ := run_bounds (P := P) (s := true) h hlc h1 h2 h3 w
   have hpart := (sl_part hu l h' m hlh hhl hhm hmc).1
   refine ⟨_, by simp only [Instr.sliceAt, Sem.run_bind, run_underlying ht, Result.andThen, Instr.slice]; simp [run_underlying ht, hrun, Result.andThen, run_sizeOf hd]; rfl, ?_⟩
   rw [he.2]
   have hes : cutE es lo hi = (es.take h').drop l := by subst hl; subst hh; cases lo <;> cases hi <;> simp [cutE, loN, hiN]
   rw [hes]
   exact hpart
  ·exact h.elim
 ·rename_i e sz ht
  split at h
  ·rename_i he
   obtain ⟨d, hd⟩ := Option.ne_none_iff_exists'.1 he
   refine ⟨_, bndP_out h, fun w B locs u vl vh vm hu h1 h2 h3 => ?_⟩
   obtain ⟨a, rfl⟩ := hu
   obtain ⟨l, h', m, hrun, hl, hh, hlh, hhl, hhm, hmc, _⟩ := run_bounds (P := P) (s := true) (len := 0) h (Nat.le_refl _) h1 h2 h3 w
   refine ⟨_, by simp only [Instr.sliceAt, Sem.run_bind, run_underlying ht, Result.andThen, Instr.slice]; simp [run_underlying ht, hrun, Result.andThen, run_sizeOf hd]; rfl, ?_⟩
   exact ⟨if m = l then a else a.map (·.add (l * P.cellsOf e)), by rw [show h' - l = 0 by omega, show m - l = 0 by omega]⟩
  ·exact h.elim
 ·exact h.elim
def evSliceE (P : Program) (ty : TypeId) (x : TV) (K : TV → Prop) : Prop :=
 match P.underlying ty, x with
 | some (.slice e), .one (.fz (.sl sz es)) =>
  if P.underlying e ≠ none ∧ P.cellsOf e = sz then K (.one (.nsl sz)) else False
 | some (.slice e), .one (.nsl sz) => if P.underlying e ≠ none then K (.one (.nsl sz)) else False
 | _, _ => False
theorem run_bounds0 {len cap : Nat} (k k' : IntKind) (w : World) : (Instr.sliceBounds true len cap none (some (.int k 0)) (some (.int k' 0))).run P w = .ok (0, 0, 0) w := by
 have e0 := run_sliceBound (P := P) w k' 0 cap .slice3Acap (by omega) (by omega)
 have e1 := run_sliceBound (P := P) w k 0 0 .slice3B (by omega) (by omega)
 simp [Instr.sliceBounds, e0, e1]
theorem evSliceE_ok {ty : TypeId} {x : TV} {K : TV → Prop} (h : evSliceE P ty x K) : ∃ v, K v ∧ ∀ (w : World) (B : Nat → Prop) (locs : Nat → Option Loc) (u : Value) (k k' : IntKind),
  RT w B locs x u → ∃ vc, (Instr.sliceAt ty u none (some (.int k 0)) (some (.int k' 0))).run P w = .ok vc w ∧ RT w B locs v vc := by
 unfold evSliceE at h
 split at h
 ·rename_i e sz es ht
  split at h
  ·rename_i he
   obtain ⟨d, hd⟩ := Option.ne_none_iff_exists'.1 he.1
   refine ⟨_, h, fun w B locs u k k' hu => ?_⟩
   have hsl : ∃ a c, u = .slice a es.length c := by
    cases hu with
    | slN sz a c => exact ⟨a, c, rfl⟩
    | sl es b off c sz cv hb hc hsz hcell hr => exact ⟨_, c, rfl⟩
   obtain ⟨a, c, rfl⟩ := hsl
   refine ⟨_, by simp only [Instr.sliceAt, Sem.run_bind, run_underlying ht, Result.andThen, Instr.slice]; simp [run_underlying ht, run_bounds0, Result.andThen, run_sizeOf hd]; rfl, ?_⟩
   exact ⟨_, rfl⟩
  ·exact h.elim
 ·rename_i e sz ht
  split at h
  ·rename_i he
   obtain ⟨d, hd⟩ := Option.ne_none_iff_exists'.1 he
   refine ⟨_, h, fun w B locs u k k' hu => ?_⟩
   obtain ⟨a, rfl⟩ := hu
   refine ⟨_, by simp only [Instr.sliceAt, Sem.run_bind, run_underlying ht, Result.andThen, Instr.slice]; simp [run_underlying ht, run_bounds0, Result.andThen, run_sizeOf hd]; rfl, ?_⟩
   exact ⟨_, rfl⟩
  ·exact h.elim
 ·exact h.elim
end
end
section
def over (cs : List AV) (off : Nat) (v : List AV) : List AV := cs.take off ++ v ++ cs.drop (off + v.length)
def fillA (place : Nat → Option (Nat × Nat)) (cells : List AV) : List (Nat × List AV) → Option (List AV)
 | [] => some cells
 | (i, v) :: rest =>
  match place i with
  | none => none
  | some (off, size) => if v.length = size ∧ off + v.length ≤ cells.length then fillA place (over cells off v) rest else none
def partsA (t : List TV) : List (Nat × Operand) → Option (List (Nat × List AV))
 | [] => some []
 | (i, x) :: r =>
  match cellsT (ev t x) with
  | some cs => match partsA t r with
   | some l => some ((i, cs) :: l)
   | none => none
  | none => none
def zeroA (P : Program) (t : TypeId) : Option (List AV) :=
 match P.info? t with
 | some i => match i.zero with
  | some z => some (fixN (kinds P t) (z.cells.toList.map cv1))
  | none => none
 | none => none
def placesOf (P : Program) (fs : List Field) : List (Nat × Nat) := fs.map fun f => (f.offset, P.cellsOf f.type)
def evBuild (P : Program) (ty : TypeId) (t : List TV) (parts : List (Nat × Operand)) (K : TV → Prop) : Prop :=
 match P.underlying ty with
 | some (.struct fs) =>
  if fs.toList.all (fun f => (P.info? f.type).isSome) then
   match zeroA P ty, partsA t parts with
   | some z, some ps =>
    match fillA (fun i => (placesOf P fs.toList)[i]?) z ps with
    | some cs => K (.agg cs)
    | none => False
   | _, _ => False
  else False
 | _ => False
def Reps (w : World) (B : Nat → Prop) (locs : Nat → Option Loc) (cs : List AV) (arr : Array Value) : Prop :=
 arr.size = cs.length ∧ ∀ (j : Nat) (x : AV), cs[j]? = some x → ∃ u, arr[j]? = some u ∧ RA w B locs x u
theorem foldl_set (off : Nat) : ∀ (vs : List Value) (k : Nat) (arr : Array Value), ((vs.zipIdx k).foldl (fun cs (p : Value × Nat) => cs.setIfInBounds (off + p.2) p.1) arr).size = arr.size ∧
  ∀ m, m < arr.size → ((vs.zipIdx k).foldl (fun cs (p : Value × Nat) => cs.setIfInBounds (off + p.2) p.1) arr)[m]? = if off + k ≤ m ∧ m < off + k + vs.length then vs[m - (off + k)]? else arr[m]?
 | [], k, arr => by
  refine ⟨rfl, fun m hm => ?_⟩
  rw [if_neg (by simp only [List.length_nil]; omega)]
  rfl
 | v :: vs, k, arr => by
  simp only [List.zipIdx_cons, List.foldl_cons]
  obtain ⟨h1, h2⟩ := foldl_set off vs (k + 1) (arr.setIfInBounds (off + k) v)
  refine ⟨by rw [h1]; simp, fun m hm => ?_⟩
  rw [h2 m (by simpa using hm)]
  by_cases hk : m = off + k
  ·subst hk
   rw [if_neg (by omega), if_pos (by simp only [List.length_cons]; omega)]
   simp [hm]
  ·by_cases hin : off + k ≤ m ∧ m < off + k + (v :: vs).length
   ·have h3 : off + (k + 1) ≤ m ∧ m < off + (k + 1) + vs.length := by simp only [List.length_cons] at hin; omega
    rw [if_pos hin, if_pos h3]
    obtain ⟨d, rfl⟩ : ∃ d, m = off + (k + 1) + d := ⟨m - (off + (k + 1)), by omega⟩
    rw [show off + (k + 1) + d - (off + (k + 1)) = d by omega, show off + (k + 1) + d - (off + k) = d + 1 by omega]
    rfl
   ·have h3 : ¬ (off + (k + 1) ≤ m ∧ m < off + (k + 1) + vs.length) := by simp only [List.length_cons] at hin; omega
    rw [if_neg hin, if_neg h3]
    exact Array.getElem?_setIfInBounds_ne (fun e => hk e.symm)
theorem over_reps {w : World} {B : Nat → Prop} {locs : Nat → Option Loc} {cs : List AV} {arr : Array Value} (h : Reps w B locs cs arr) {off : Nat} {v : List AV} {va : Array Value} (hv : Reps w B locs v va) (hle : off + v.length ≤ cs.length) :
  Reps w B locs (over cs off v) (va.zipIdx.foldl (fun cs (c, j) => cs.setIfInBounds (off + j) c) arr) := by
 obtain ⟨h1, h2⟩ := h
 obtain ⟨h3, h4⟩ := hv
 have he : va.zipIdx.foldl (fun cs (c, j) => cs.setIfInBounds (off + j) c) arr = (va.toList.zipIdx 0).foldl (fun cs (p : Value × Nat) => cs.setIfInBounds (off + p.2) p.1) arr := by
  rw [← Array.foldl_toList, Array.toList_zipIdx]
 rw [he]
 obtain ⟨h5, h6⟩ := foldl_set off va.toList 0 arr
 have hol : (over cs off v).length = cs.length := by simp only [over, List.length_append, List.length_take, List.length_drop]; omega
 refine ⟨by rw [h5, h1, hol], fun j x hx => ?_⟩
 have hj : j < cs.length := by
  rcases Nat.lt_or_ge j cs.length with h' | h'
  ·exact h'
  ·rw [List.getElem?_eq_none (by omega)] at hx; cases hx
 rw [h6 j (by omega)]
 simp only [over, List.append_assoc] at hx
 by_cases ha : j < off
 ·rw [List.getElem?_append_left (by simp; omega), List.getElem?_take_of_lt ha] at hx
  rw [if_neg (by omega)]
  exact h2 j x hx
 ·rw [List.getElem?_append_right (by simp; omega)] at hx
  simp only [List.length_take, Nat.min_eq_left (show off ≤ cs.length by omega)] at hx
  by_cases hb : j < off + v.length
  ·rw [List.getElem?_append_left (by omega)] at hx
   rw [if_pos (by simp only [Nat.add_zero, Array.length_toList, h3]; omega)]
   obtain ⟨u, hu, hr⟩ := h4 _ x hx
   exact ⟨u, by simpa using hu, hr⟩
  ·rw [List.getElem?_append_right (by omega), List.getElem?_drop] at hx
   rw [if_neg (by simp only [Nat.add_zero, Array.length_toList, h3]; omega)]
   refine h2 j x ?_
   rw [← hx]
   congr 1
   omega
theorem fillA_ok {w : World} {B : Nat → Prop} {locs : Nat → Option Loc} {place : Nat → Option (Nat × Nat)} : ∀ {ps : List (Nat × List AV)} {cells cs : List AV}, fillA place cells ps = some cs →
  ∀ {arr : Array Value} {qs : List (Nat × Value)}, Reps w B locs cells arr → qs.length = ps.length → (∀ (i : Nat) (n : Nat) (l : List AV), ps[i]? = some (n, l) → ∃ u, qs[i]? = some (n, u) ∧ Reps w B locs l u.cells) →
  ∃ out, Instr.fill place arr qs = some out ∧ Reps w B locs cs out
 | [], cells, cs, h, arr, qs, ha, hl, hq => by
  cases h
  have : qs = [] := List.eq_nil_of_length_eq_zero (by simpa using hl)
  subst this
  exact ⟨arr, rfl, ha⟩
 | (i, v) :: rest, cells, cs, h, arr, qs, ha, hl, hq => by
  cases qs with
  | nil => simp at hl
  | cons q qs =>
   obtain ⟨u, hu, hr⟩ := hq 0 i v rfl
   cases hu
   unfold fillA at h
   cases hp : place i with
   | none => simp [hp] at h
   | some os =>
    obtain ⟨off, size⟩ := os
    simp only [hp] at h
    split at h
    ·rename_i hc
     obtain ⟨hc1, hc2⟩ := hc
     obtain ⟨out, h1, h2⟩ := fillA_ok h (arr := u.cells.zipIdx.foldl (fun cs (c, j) => cs.setIfInBounds (off + j) c) arr) (qs := qs) (over_reps ha hr hc2) (by simpa using hl)
      (fun k n l hk => by obtain ⟨u, hu, hr⟩ := hq (k + 1) n l hk; exact ⟨u, hu, hr⟩)
     refine ⟨out, ?_, h2⟩
     unfold Instr.fill
     simp only [hp]
     rw [if_neg (by have e1 : u.cells.size = v.length := hr.1; have e2 : arr.size = cells.length := ha.1; simp; omega)]
     exact h1
    ·cases h
theorem partsA_ok {w : World} {B : Nat → Prop} {locs : Nat → Option Loc} {t : List TV} {a : Act} (hr : RepT w B locs t a) : ∀ {parts : List (Nat × Operand)} {ps : List (Nat × List AV)}, partsA t parts = some ps →
  ps.length = parts.length ∧ ∀ (i : Nat) (n : Nat) (l : List AV), ps[i]? = some (n, l) → ∃ u, (parts.map fun (i, x) => (i, a.eval x))[i]? = some (n, u) ∧ Reps w B locs l u.cells
 | [], ps, h => by cases h; exact ⟨rfl, by simp⟩
 | (i, x) :: r, ps, h => by
  unfold partsA at h
  split at h
  ·rename_i cs hcs
   split at h
   ·rename_i l hl
    cases h
    obtain ⟨h1, h2⟩ := partsA_ok hr hl
    refine ⟨by simp [h1], fun k n l hk => ?_⟩
    cases k with
    | zero => cases hk; exact ⟨_, rfl, cellsT_ok hcs (ev_rep hr x)⟩
    | succ k => exact h2 k n l hk
   ·cases h
  ·cases h
theorem zeroA_ok {P : Program} {t : TypeId} {cs : List AV} (h : zeroA P t = some cs) : ∃ i z, P.info? t = some i ∧ i.zero = some z ∧ ∀ (w : World) (B : Nat → Prop) (locs : Nat → Option Loc), Reps w B locs cs z.cells := by
 unfold zeroA at h
 split at h
 ·split at h
  ·cases h
   refine ⟨_, _, ‹_›, ‹_›, fun w B locs => ?_⟩
   obtain ⟨h1, h2⟩ := fixN_ok (w := w) (B := B) (locs := locs) (kinds P t) ((‹Value› : Value).cells.toList.map cv1)
   refine ⟨by rw [h1]; simp, fun j x hx => ?_⟩
   obtain ⟨y, hx, hxy⟩ := h2 j x hx
   simp only [List.getElem?_map, Option.map_eq_some_iff] at hx
   obtain ⟨u, hu, rfl⟩ := hx
   exact ⟨u, by simpa using hu, hxy _ (cv1_rep w B locs u)⟩
  ·cases h
 ·cases h
theorem places_ok {P : Program} : ∀ (fs : List Field), fs.all (fun f => (P.info? f.type).isSome) = true → fs.mapM (fun f => (P.info? f.type).map fun i => (f.offset, i.size)) = some (placesOf P fs)
 | [], _ => rfl
 | f :: fs, h => by
  simp only [List.all_cons, Bool.and_eq_true] at h
  obtain ⟨i, hi⟩ := Option.isSome_iff_exists.1 h.1
  simp [List.mapM_cons, hi, places_ok fs h.2, placesOf, Program.cellsOf]
theorem evBuild_ok {P : Program} {ty : TypeId} {t : List TV} {parts : Array (Nat × Operand)} {K : TV → Prop} (h : evBuild P ty t parts.toList K) : ∃ v, K v ∧ ∀ (w : World) (B : Nat → Prop) (locs : Nat → Option Loc) (a : Act), RepT w B locs t a →
  ∃ vc, (Instr.build ty (parts.map fun (i, x) => (i, a.eval x))).run P w = .ok vc w ∧ RT w B locs v vc := by
 unfold evBuild at h
 split at h
 ·rename_i fs hfs
  split at h
  ·rename_i hall
   split at h
   ·rename_i z ps hz hps
    split at h
    ·rename_i cs hcs
     refine ⟨_, h, fun w B locs a hr => ?_⟩
     obtain ⟨it, zv, hi, hzv, hzr⟩ := zeroA_ok hz
     obtain ⟨h1, h2⟩ := partsA_ok hr hps
     obtain ⟨out, h3, h4⟩ := fillA_ok hcs (hzr w B locs) (by simp [h1]) h2
     refine ⟨.agg out, run_build w ty _ out ?_, ⟨out.toList, by simp [mkV], by simp [h4.1], by simp, fun j x hx => by obtain ⟨u, hu, hra⟩ := h4.2 j x hx; exact ⟨u, by simpa using hu, hra⟩⟩⟩
     unfold Program.built
     simp only [hi, hfs, hzv, places_ok _ hall]
     rw [← h3]
     congr 1
     ·funext i; simp
     ·simp
    ·exact h.elim
   ·exact h.elim
  ·exact h.elim
 ·exact h.elim
def evNilCheck (x : TV) (K : TV → Prop) : Prop :=
 match x with
 | .one (.ptr o e c ty) => K (.one (.ptr o e c ty))
 | .one (.fz (.fp cs)) => K (.one (.fz (.fp cs)))
 | .one (.fz (.fn f caps)) => K (.one (.fz (.fn f caps)))
 | _ => False
def evMakeFunc (t : List TV) (fn : Fn) (first caps : List Operand) (K : TV → Prop) : Prop :=
 match fn, first, frzTs (caps.map (ev t)) with
 | .func f, [], some cs => K (.one (.fz (.fn f cs)))
 | _, _, _ => False
def emptyCut : Option Operand → Option Operand → Option Operand → Bool
 | none, some (.const (.int _ (.ofNat 0))), some (.const (.int _ (.ofNat 0))) => true
 | _, _, _ => false
theorem emptyCut_eq {lo hi mx : Option Operand} (h : emptyCut lo hi mx = true) : lo = none ∧ ∃ k k', hi = some (.const (.int k 0)) ∧ mx = some (.const (.int k' 0)) := by
 unfold emptyCut at h
 split at h
 ·exact ⟨rfl, _, _, rfl, rfl⟩
 ·cases h
def evPure (P : Program) (op : Op) (ty : TypeId) (t : List TV) (K : TV → Prop) : Prop :=
 match op with
 | .move x => K (fixT P ty (ev t x))
 | .assign x => K (fixT P ty (ev t x))
 | .pick c a b => brB (ev t c) fun p => K (ev t (if p then a else b))
 | .binOp op ty x y _ => evBin P op ty y (ev t x) (ev t y) K
 | .unOp op _ x => evUn op (ev t x) K
 | .convert s d x => evConv P s d (ev t x) K
 | .extract x i => evExtract (ev t x) i K
 | .field ty x f => evField P ty (ev t x) f K
 | .index ty x i => evIndex P ty (ev t x) (ev t i) K
 | .fieldAddr ty x f => evFieldAddr P ty (ev t x) f K
 | .indexAddr ty x i => evIndexAddr P ty (ev t x) (ev t i) K
 | .slice ty x lo hi mx =>
  match bound t lo, bound t hi, bound t mx with
  | some l, some h, some m => if emptyCut lo hi mx = true then evSliceE P ty (ev t x) K else evSlice P ty (ev t x) l h m K
  | _, _, _ => False
 | .build ty parts => evBuild P ty t parts.toList K
 | .nilCheck x => evNilCheck (ev t x) K
 | .makeFunc fn first caps => evMakeFunc t fn first.toList caps.toList K
 | .call { callee := .builtin .len, args, argTypes } =>
  match args.toList, argTypes.toList with
  | [x], [ty] => evLen P ty (ev t x) K
  | _, _ => False
 | .call { callee := .builtin .max, args, argTypes } =>
  match args.toList with
  | [x, y] => evMax (ev t x) (ev t y) K
  | _ => False
 | .call { callee := .builtin .min, args, argTypes } =>
  match args.toList with
  | [x, y] => evMin (ev t x) (ev t y) K
  | _ => False
 | .call { callee := .builtin .cap, args, argTypes } =>
  match args.toList, argTypes.toList with
  | [x], [ty] => evCap P ty (ev t x) K
  | _, _ => False
 | _ => False
theorem frzTs_ok {w : World} {B : Nat → Prop} {locs : Nat → Option Loc} : ∀ {ts : List TV} {cs : List (Bool × List FV)}, frzTs ts = some cs → ∀ (us : List Value), us.length = ts.length → (∀ (i : Nat) (x : TV), ts[i]? = some x → ∃ u, us[i]? = some u ∧ RT w B locs x u) →
  cs.length = ts.length ∧ ∀ (i : Nat) (b : Bool) (l : List FV), cs[i]? = some (b, l) → ∃ u vs, us[i]? = some u ∧ u = mkV b vs ∧ vs.length = l.length ∧ ∀ (j : Nat) (x : FV), l[j]? = some x → ∃ v, vs[j]? = some v ∧ RF w B x v
 | [], cs, h, us, hl, hu => by cases h; exact ⟨rfl, by simp⟩
 | t :: ts, cs, h, us, hl, hu => by
  unfold frzTs at h
  split at h
  ·rename_i v hv
   split at h
   ·rename_i l hl'
    cases h
    cases us with
    | nil => simp at hl
    | cons u us =>
     obtain ⟨h1, h2⟩ := frzTs_ok hl' us (by simpa using hl) (fun i x hx => hu (i + 1) x hx)
     refine ⟨by simp [h1], fun i b l hi => ?_⟩
     cases i with
     | zero =>
      cases hi
      obtain ⟨u', hu', hr⟩ := hu 0 t rfl
      cases hu'
      obtain ⟨vs, h3, h4, h5, h6⟩ := frzT_ok hv hr
      exact ⟨u, vs, rfl, h3, h4, h6⟩
     | succ i => exact h2 i b l hi
   ·cases h
  ·cases h
theorem evPure_ok {P : Program} {o : Oper} {t : List TV} {K : TV → Prop} (h : evPure P o.op o.type t K) : ∃ v, K v ∧ PureOK P o t v := by
 obtain ⟨dst, op, type, pos, after, guard⟩ := o
 simp only at h
 unfold evPure at h
 split at h
 ·exact ⟨_, h, fun w B locs a hr => ⟨_, rfl, fixT_ok (ev_rep hr _)⟩⟩
 ·exact ⟨_, h, fun w B locs a hr => ⟨_, rfl, fixT_ok (ev_rep hr _)⟩⟩
 ·obtain ⟨b, hk, hb⟩ := brB_ok h
  refine ⟨_, hk, fun w B locs a hr => ?_⟩
  have e1 := inv_bool hb (ev_rep hr _)
  refine ⟨_, by simp [execOp, e1, asBool]; rfl, ?_⟩
  cases b
  ·exact ev_rep hr _
  ·exact ev_rep hr _
 ·obtain ⟨v, hk, hv⟩ := evBin_ok h
  refine ⟨v, hk, fun w B locs a hr => ?_⟩
  obtain ⟨vc, h1, h2⟩ := hv w B locs a hr
  exact ⟨vc, by simp only [execOp, Sem.run_bind, h1, Result.andThen]; rfl, h2⟩
 ·obtain ⟨v, hk, hv⟩ := evUn_ok (P := P) h
  refine ⟨v, hk, fun w B locs a hr => ?_⟩
  obtain ⟨vc, h1, h2⟩ := hv w B locs _ (ev_rep hr _)
  exact ⟨vc, by simp [execOp, h1], h2⟩
 ·obtain ⟨v, hk, hv⟩ := evConv_ok h
  refine ⟨v, hk, fun w B locs a hr => ?_⟩
  obtain ⟨vc, h1, h2⟩ := hv w B locs _ (ev_rep hr _)
  exact ⟨vc, by simp [execOp, h1], h2⟩
 ·obtain ⟨v, hk, hv⟩ := evExtract_ok (P := P) h
  refine ⟨v, hk, fun w B locs a hr => ?_⟩
  obtain ⟨vc, h1, h2⟩ := hv w B locs _ (ev_rep hr _)
  exact ⟨vc, by simp [execOp, h1], h2⟩
 ·obtain ⟨v, hk, hv⟩ := evField_ok h
  refine ⟨v, hk, fun w B locs a hr => ?_⟩
  obtain ⟨vc, h1, h2⟩ := hv w B locs _ (ev_rep hr _)
  exact ⟨vc, by simp [execOp, h1], h2⟩
 ·obtain ⟨v, hk, hv⟩ := evIndex_ok h
  refine ⟨v, hk, fun w B locs a hr => ?_⟩
  obtain ⟨vc, h1, h2⟩ := hv w B locs _ _ (ev_rep hr _) (ev_rep hr _)
  exact ⟨vc, by simp [execOp, h1], h2⟩
 ·obtain ⟨v, hk, hv⟩ := evFieldAddr_ok h
  refine ⟨v, hk, fun w B locs a hr => ?_⟩
  obtain ⟨vc, h1, h2⟩ := hv w B locs _ (ev_rep hr _)
  exact ⟨vc, by simp [execOp, h1], h2⟩
 ·obtain ⟨v, hk, hv⟩ := evIndexAddr_ok h
  refine ⟨v, hk, fun w B locs a hr => ?_⟩
  obtain ⟨vc, h1, h2⟩ := hv w B locs _ _ (ev_rep hr _) (ev_rep hr _)
  exact ⟨vc, by simp [execOp, h1], h2⟩
 ·split at h
  ·rename_i ty x lo hi mx l' h' m' h1 h2 h3
   split at h
   ·rename_i hemp
    obtain ⟨rfl, k, k', rfl, rfl⟩ := emptyCut_eq hemp
    obtain ⟨v, hk, hv⟩ := evSliceE_ok h
    refine ⟨v, hk, fun w B locs a hr => ?_⟩
    obtain ⟨vc, h1, h2⟩ := hv w B locs _ k k' (ev_rep hr _)
    exact ⟨vc, by have e0 : ∀ k : IntKind, a.eval (.const (.int k 0)) = .int k 0 := fun _ => rfl
                  simp [execOp, e0, h1], h2⟩
   obtain ⟨v, hk, hv⟩ := evSlice_ok h
   refine ⟨v, hk, fun w B locs a hr => ?_⟩
   have bb : ∀ {x : Option Operand} {r : Option Int}, bound t x = some r → (r = none ∧ x.map a.eval = none) ∨ ∃ k n, r = some n ∧ x.map a.eval = some (.int k n) := by
    intro x r hx
    rcases bound_ok hx hr with ⟨rfl, rfl⟩ | ⟨y, k, n, rfl, rfl, he⟩
    ·exact .inl ⟨rfl, rfl⟩
    ·exact .inr ⟨k, n, rfl, by simp [he]⟩
   obtain ⟨vc, h1, h2⟩ := hv w B locs _ _ _ _ (ev_rep hr _) (bb h1) (bb h2) (bb h3)
   exact ⟨vc, by simp [execOp, h1], h2⟩
  ·exact h.elim
 ·obtain ⟨v, hk, hv⟩ := evBuild_ok h
  refine ⟨v, hk, fun w B locs a hr => ?_⟩
  obtain ⟨vc, h1, h2⟩ := hv w B locs a hr
  exact ⟨vc, by simp only [execOp, Sem.run_bind, h1, Result.andThen]; rfl, h2⟩
 ·rename_i x
  unfold evNilCheck at h
  split at h
  ·rename_i o e c ty hx
   refine ⟨_, h, fun w B locs a hr => ?_⟩
   have e1 := ev_rep hr x
   rw [hx] at e1
   obtain ⟨l, d, h1, h2, h3⟩ := e1
   exact ⟨_, by simp only [execOp, h3]; rfl, l, d, h1, h2, rfl⟩
  ·rename_i cs hx
   refine ⟨_, h, fun w B locs a hr => ?_⟩
   have e1 := ev_rep hr x
   rw [hx] at e1
   refine ⟨a.eval x, ?_, e1⟩
   generalize hq : a.eval x = q at e1
   cases e1
   simp only [execOp, hq]
   rfl
  ·rename_i f caps hx
   refine ⟨_, h, fun w B locs a hr => ?_⟩
   have e1 := ev_rep hr x
   rw [hx] at e1
   refine ⟨a.eval x, ?_, e1⟩
   generalize hq : a.eval x = q at e1
   cases e1
   simp only [execOp, hq]
   rfl
  ·exact h.elim
 ·rename_i fn first caps
  unfold evMakeFunc at h
  split at h
  ·rename_i f cs h0 h2
   refine ⟨_, h, fun w B locs a hr => ?_⟩
   have hfirst : first = #[] := Array.ext' (by simpa using h0)
   subst hfirst
   obtain ⟨h3, h4⟩ := frzTs_ok h2 (caps.toList.map a.eval) (by simp) (fun i x hx => by
    simp only [List.getElem?_map, Option.map_eq_some_iff] at hx ⊢
    obtain ⟨y, hy, rfl⟩ := hx
    exact ⟨a.eval y, ⟨y, hy, rfl⟩, ev_rep hr y⟩)
   have hex : ∀ i : Nat, ∃ vs : List Value, ∀ (b : Bool) (l : List FV), cs[i]? = some (b, l) → (caps.toList.map a.eval)[i]? = some (mkV b vs) ∧ vs.length = l.length ∧ ∀ (j : Nat) (x : FV), l[j]? = some x → ∃ v, vs[j]? = some v ∧ RF w B x v := by
    intro i
    cases hc : cs[i]? with
    | none => exact ⟨[], fun b l e => by cases e⟩
    | some p =>
     obtain ⟨b, l⟩ := p
     obtain ⟨u, vs, h5, rfl, h6, h7⟩ := h4 i b l hc
     exact ⟨vs, fun b' l' e => by cases e; exact ⟨h5, h6, h7⟩⟩
   obtain ⟨vs, hvs⟩ := Classical.axiomOfChoice hex
   refine ⟨_, by simp [execOp, Instr.makeFunc], RF.fn f cs vs (caps.map a.eval) (by simp [h3]) (fun i b l hi => ?_) (fun i b l j x v hi hx hv => ?_)⟩
   ·obtain ⟨h5, h6, _⟩ := hvs i b l hi
    exact ⟨h6, by simpa using h5⟩
   ·obtain ⟨_, _, h7⟩ := hvs i b l hi
    obtain ⟨v', hv', hr'⟩ := h7 j x hx
    rw [hv] at hv'
    cases hv'
    exact hr'
  ·exact h.elim
 ·rename_i args argTypes
  split at h
  ·rename_i x ty hx hty
   obtain ⟨v, hk, hv⟩ := evLen_ok (rt := type) h
   refine ⟨v, hk, fun w B locs a hr => ?_⟩
   obtain ⟨vc, h1, h2⟩ := hv w B locs _ (ev_rep hr _)
   have ea : args = #[x] := Array.ext' (by simpa using hx)
   have et : argTypes = #[ty] := Array.ext' (by simpa using hty)
   subst ea et
   exact ⟨vc, by simp [execOp, resolve, invoke, builtin, h1], h2⟩
  ·exact h.elim
 ·rename_i args argTypes
  split at h
  ·rename_i x y hx
   obtain ⟨v, hk, hv⟩ := evMax_ok (P := P) h
   refine ⟨v, hk, fun w B locs a hr => ?_⟩
   obtain ⟨vc, h1, h2⟩ := hv argTypes type w B locs _ _ (ev_rep hr _) (ev_rep hr _)
   have ea : args = #[x, y] := Array.ext' (by simpa using hx)
   subst ea
   exact ⟨vc, by simp [execOp, resolve, invoke, builtin, h1], h2⟩
  ·exact h.elim
 ·rename_i args argTypes
  split at h
  ·rename_i x y hx
   obtain ⟨v, hk, hv⟩ := evMin_ok (P := P) h
   refine ⟨v, hk, fun w B locs a hr => ?_⟩
   obtain ⟨vc, h1, h2⟩ := hv argTypes type w B locs _ _ (ev_rep hr _) (ev_rep hr _)
   have ea : args = #[x, y] := Array.ext' (by simpa using hx)
   subst ea
   exact ⟨vc, by simp [execOp, resolve, invoke, builtin, h1], h2⟩
  ·exact h.elim
 ·rename_i args argTypes
  split at h
  ·rename_i x ty hx hty
   obtain ⟨v, hk, hv⟩ := evCap_ok (rt := type) h
   refine ⟨v, hk, fun w B locs a hr => ?_⟩
   obtain ⟨vc, h1, h2⟩ := hv w B locs _ (ev_rep hr _)
   have ea : args = #[x] := Array.ext' (by simpa using hx)
   have et : argTypes = #[ty] := Array.ext' (by simpa using hty)
   subst ea et
   exact ⟨vc, by simp [execOp, resolve, invoke, builtin, h1], h2⟩
  ·exact h.elim
 ·exact h.elim
end
section
def getO (h : List Ob) (o : Nat) : Ob := h.getD o .no
def putO (h : List Ob) (o : Nat) (ob : Ob) : List Ob := if o < h.length then h.set o ob else h ++ [ob]
def putOs (h : List Ob) : List (Nat × Ob) → List Ob
 | [] => h
 | (o, ob) :: r => putOs (putO h o ob) r
def putT (t : List TV) (dst : Option Tmp) (v : TV) : List TV :=
 match dst with
 | some d => t.set d v
 | none => t
theorem CR.later {w w' : World} {B B' : Nat → Prop} (lt : Later w B w' B') {locs locs' : Nat → Option Loc} (hl : ∀ (o : Nat) (x : Loc), locs o = some x → locs' o = some x) {s : Nat} {n : Option Nat} {fo : Option (Nat × Nat × Nat)} {SS : Nat → Nat → Nat → Prop} {i j : Nat} {x : FV} {v : Value}
  (hb : ∀ b, SS i j b → w'.heap[b]? = w.heap[b]?) (h : CR w B locs s n fo SS i j x v) : CR w' B' locs' s n fo SS i j x v := by
 unfold CR at h ⊢
 split
 ·rename_i hk
  rw [hk] at h
  exact RF.later lt h
 ·rename_i s' hk
  rw [hk] at h
  rcases h with ⟨h0, h1, h⟩ | ⟨h0, ⟨o, sz, h1, h2⟩ | ⟨h1, h2⟩⟩
  ·exact .inl ⟨h0, h1, h.later lt⟩
  ·exact .inr ⟨h0, .inl ⟨o, sz, h1, h2.later lt hl⟩⟩
  ·exact .inr ⟨h0, .inr ⟨h1, h2.later lt (fun _ h => h) hb⟩⟩
theorem RepOb.later {P : Program} {w : World} {B : Nat → Prop} {w' : World} {B' : Nat → Prop} (lt : Later w B w' B') {locs locs' : Locs} (hl : ∀ (o : Nat) (x : Loc), locs o = some x → locs' o = some x)
  {l : Loc} {ob : Ob} {S : Nat → Prop} (hb : ob.live = true → ∀ d, l.a = some d → w'.heap[d.block]? = w.heap[d.block]?) (hS : ob.live = true → ∀ b, S b → w'.heap[b]? = w.heap[b]?) (h : RepOb P w B locs S l ob) : RepOb P w' B' locs' S l ob := by
 cases ob with
 | r s et sz es n fo =>
  obtain ⟨h1, h2, h3⟩ := h
  refine ⟨h1, h2, ?_⟩
  rcases h3 with h3 | ⟨b, off, c, ty, SS, h4, h5, het, h6, h7, hp, h8⟩
  ·exact .inl h3
  ·refine .inr ⟨b, off, c, ty, SS, h4, by rw [hb rfl _ h4]; exact h5, het, h6, h7, hp, fun i e he => ?_⟩
   obtain ⟨h9, h10⟩ := h8 i e he
   refine ⟨h9, fun j x hx => ?_⟩
   obtain ⟨v, hv, hr⟩ := h10 j x hx
   exact ⟨v, hv, hr.later lt hl (fun b hb' => hS rfl b (hp.sub i j b hb').1)⟩
 | no => trivial
 | rs => exact h.elim
 | f et sz es =>
  obtain ⟨h1, h2, h3⟩ := h
  refine ⟨h1, h2, ?_⟩
  rcases h3 with h3 | ⟨b, off, c, ty, h4, h5, het, h6, h7, h8⟩
  ·exact .inl h3
  ·refine .inr ⟨b, off, c, ty, h4, by rw [hb rfl _ h4]; exact h5, het, h6, h7, fun i e he => ?_⟩
   obtain ⟨h9, h10⟩ := h8 i e he
   exact ⟨h9, fun j x hx => by obtain ⟨v, hv, hr⟩ := h10 j x hx; exact ⟨v, hv, hr.later lt⟩⟩
 | z sz es =>
  obtain ⟨h1, h2, h3⟩ := h
  refine ⟨h1, h2, ?_⟩
  rcases h3 with h3 | ⟨b, off, h4, h5⟩
  ·exact .inl h3
  ·refine .inr ⟨b, off, h4, fun i e he => ?_⟩
   obtain ⟨h9, h10⟩ := h5 i e he
   refine ⟨h9, fun j x hx => ?_⟩
   obtain ⟨hn, v, hv, hr⟩ := h10 j x hx
   have hlt := cell_lt hv
   exact ⟨fun hb' => hn (lt.bar b hlt hb'), v, (cell_eq (lt.same b hlt hn)).trans hv, hr.later lt⟩
 | g gt cs =>
  obtain ⟨h1, b, c, h4, h5, h6, h7⟩ := h
  exact ⟨h1, b, c, h4, by rw [hb rfl _ h4]; exact h5, h6, fun j x hx => by obtain ⟨v, hv, hr⟩ := h7 j x hx; exact ⟨v, hv, hr.later lt hl⟩⟩
theorem RepH.step {P : Program} {ext : Nat → Prop} {w0 : World} {own0 : Own0} {locs locs' : Locs} {h h' : List Ob} {w w' : World} (H : RepH P ext w0 own0 locs h w)
  (C D : Nat → Prop) (hw : ∀ b, b < w.heap.size → ¬ D b → w'.heap[b]? = w.heap[b]?) (hsz : w.heap.size ≤ w'.heap.size) (hos : w'.os = w.os) (htape : w'.tape = w.tape) (hout : w'.output = w.output)
  (hD : ∀ b, b < w.heap.size → D b → ownB locs h b)
  (hl : ∀ (o : Nat) (x : Loc), locs o = some x → locs' o = some x) (hlen : ∀ o, h'.length ≤ o → locs' o = none)
  (hk : ∀ (o : Nat) (ob : Ob), ¬ C o → h'[o]? = some ob → h[o]? = some ob ∧ locs' o = locs o ∧ locs'.own o = locs.own o) (hlt : ∀ (o b : Nat), locs'.own o b → b < w'.heap.size)
  (hkD : ∀ (o : Nat) (l : Loc) (ob : Ob) (d : Addr), ¬ C o → h[o]? = some ob → ob.live = true → locs o = some l → locs.hs o l d → ¬ D d.block)
  (hown : ∀ b, b < w.heap.size → ownB locs' h' b → ownB locs h b)
  (hap : ∀ (o o' : Nat) (l l' : Loc) (ob ob' : Ob) (d d' : Addr), C o → o ≠ o' → h'[o]? = some ob → h'[o']? = some ob' → ob.live = true → ob'.live = true → locs' o = some l → locs' o' = some l' → locs'.hs o l d → locs'.hs o' l' d' → d.block ≠ d'.block)
  (hc : Later w (Bar ext locs h) w' (Bar ext locs' h') → ∀ (o : Nat) (ob : Ob), C o → h'[o]? = some ob → ob = .no ∨ (ob = .rs ∧ locs' o = none) ∨ ∃ l, locs' o = some l ∧ RepOb P w' (Bar ext locs' h') locs' (locs'.own o) l ob) :
  RepH P ext w0 own0 locs' h' w' ∧ Later w (Bar ext locs h) w' (Bar ext locs' h') := by
 have lt : Later w (Bar ext locs h) w' (Bar ext locs' h') :=
  ⟨fun b hb hn => hw b hb (fun hd => hn (.inr (hD b hb hd))), fun b hb hn => hn.elim .inl (fun ho => .inr (hown b hb ho))⟩
 refine ⟨⟨hlen, fun o ob ho => ?_, fun o o' l l' ob ob' d d' hne ho ho' hlv hlv' hlo hlo' hd hd' => ?_, fun b hb ho => ?_, fun b hb => Nat.lt_of_lt_of_le (H.extlt b hb) hsz, fun b hb ho => ?_, ?_, H.base, fun o x hx => hl o x (H.pins o x hx), hlt⟩, lt⟩
 ·by_cases hco : C o
  ·exact hc lt o ob hco ho
  ·obtain ⟨h1, h2, h2o⟩ := hk o ob hco ho
   rcases H.ob o ob h1 with h3 | ⟨h3, h4⟩ | ⟨l, h3, h4⟩
   ·exact .inl h3
   ·exact .inr (.inl ⟨h3, by rw [h2]; exact h4⟩)
   ·rw [h2o]
    refine .inr (.inr ⟨l, hl o l h3, h4.later lt hl (fun hlv d hd => hw _ ?_ (hkD o l ob d hco h1 hlv h3 (.inl hd))) (fun hlv b hb => hw _ (H.ownlt o b hb) (hkD o l ob ⟨b, 0, none⟩ hco h1 hlv h3 (.inr hb)))⟩)
    cases ob with
    | f et sz es =>
     obtain ⟨_, _, h5 | ⟨b, off, c, ty, h6, h7, _⟩⟩ := h4
     ·rw [h5.2.1] at hd; cases hd
     ·rw [h6] at hd; cases hd
      rcases Nat.lt_or_ge b w.heap.size with h' | h'
      ·exact h'
      ·rw [Array.getElem?_eq_none h'] at h7; cases h7
    | g gt cs =>
     obtain ⟨_, b, c, h6, h7, _⟩ := h4
     rw [h6] at hd; cases hd
     rcases Nat.lt_or_ge b w.heap.size with h' | h'
     ·exact h'
     ·rw [Array.getElem?_eq_none h'] at h7; cases h7
    | r s et sz es n fo =>
     obtain ⟨_, _, h5 | ⟨b, off, c, ty, SS, h6, h7, _⟩⟩ := h4
     ·rw [h5.2.1] at hd; cases hd
     ·rw [h6] at hd; cases hd
      rcases Nat.lt_or_ge b w.heap.size with h' | h'
      ·exact h'
      ·rw [Array.getElem?_eq_none h'] at h7; cases h7
    | _ => cases hlv
 ·by_cases hco : C o
  ·exact hap o o' l l' ob ob' d d' hco hne ho ho' hlv hlv' hlo hlo' hd hd'
  ·by_cases hco' : C o'
   ·exact fun e => hap o' o l' l ob' ob d' d hco' (fun e => hne e.symm) ho' ho hlv' hlv hlo' hlo hd' hd e.symm
   ·obtain ⟨h1, h2, h2o⟩ := hk o ob hco ho
    obtain ⟨h3, h4, h4o⟩ := hk o' ob' hco' ho'
    exact H.apart o o' l l' ob ob' d d' hne h1 h3 hlv hlv' (by rw [← h2]; exact hlo) (by rw [← h4]; exact hlo') (by simpa [Locs.hs, h2o] using hd) (by simpa [Locs.hs, h4o] using hd')
 ·exact H.extOwn b hb (hown b (H.extlt b hb) ho)
 ·exact H.ownOld b hb (hown b (Nat.lt_of_lt_of_le hb H.since.size) ho)
 ·refine ⟨Nat.le_trans H.since.size hsz, fun b hb hn => ?_, hos.trans H.since.os, htape.trans H.since.tape, hout.trans H.since.output⟩
  have hlt := Nat.lt_of_lt_of_le hb H.since.size
  rw [hw b hlt (fun hd => hn (H.ownOld b hb (hD b hlt hd)))]
  exact H.since.block b hb hn
theorem putO_get {h : List Ob} {o : Nat} {ob : Ob} (hlen : o ≤ h.length) (k : Nat) : (putO h o ob)[k]? = if k = o then some ob else h[k]? := by
 unfold putO
 split
 ·rename_i hlt
  rw [List.getElem?_set]
  by_cases e : o = k
  ·subst e; simp [hlt]
  ·rw [if_neg e, if_neg (fun e' => e e'.symm)]
 ·rename_i hlt
  have : o = h.length := by omega
  subst this
  by_cases e : k = h.length
  ·subst e; simp
  ·rw [if_neg e]
   rcases Nat.lt_or_ge k h.length with h' | h'
   ·rw [List.getElem?_append_left h']
   ·rw [List.getElem?_eq_none (by simp; omega), List.getElem?_eq_none h']
theorem putO_len {h : List Ob} {o : Nat} {ob : Ob} : h.length ≤ (putO h o ob).length ∧ (o ≤ h.length → o < (putO h o ob).length) := by
 unfold putO
 split
 ·simp; omega
 ·simp; omega
def freshO (h : List Ob) (o : Nat) : Prop := o = h.length ∨ h[o]? = some .rs
theorem fresh_none {P : Program} {ext : Nat → Prop} {w0 : World} {own0 : Own0} {locs : Locs} {h : List Ob} {w : World} (H : RepH P ext w0 own0 locs h w) {o : Nat} (hf : freshO h o) : locs o = none ∧ o ≤ h.length := by
 rcases hf with rfl | hf
 ·exact ⟨H.len _ (Nat.le_refl _), Nat.le_refl _⟩
 ·have hlt : o < h.length := by
   rcases Nat.lt_or_ge o h.length with h' | h'
   ·exact h'
   ·rw [List.getElem?_eq_none h'] at hf; cases hf
  rcases H.ob o _ hf with h1 | ⟨_, h1⟩ | ⟨l, h1, h2⟩
  ·cases h1
  ·exact ⟨h1, Nat.le_of_lt hlt⟩
  ·exact h2.elim
def addS (locs : Locs) (id : Nat) (l : Loc) (S : Nat → Prop) : Locs := ⟨fun o => if o = id then some l else locs o, fun o => if o = id then S else locs.own o⟩
def addL (locs : Locs) (id : Nat) (l : Loc) : Locs := addS locs id l fun _ => False
theorem addS_at {locs : Locs} {id : Nat} {l : Loc} {S : Nat → Prop} : addS locs id l S id = some l := if_pos rfl
theorem addS_ne {locs : Locs} {id : Nat} {l : Loc} {S : Nat → Prop} {o : Nat} (h : o ≠ id) : addS locs id l S o = locs o := if_neg h
theorem addS_own {locs : Locs} {id : Nat} {l : Loc} {S : Nat → Prop} : (addS locs id l S).own id = S := if_pos rfl
theorem addS_own_ne {locs : Locs} {id : Nat} {l : Loc} {S : Nat → Prop} {o : Nat} (h : o ≠ id) : (addS locs id l S).own o = locs.own o := if_neg h
theorem addL_at {locs : Locs} {id : Nat} {l : Loc} : addL locs id l id = some l := if_pos rfl
theorem addL_ne {locs : Locs} {id : Nat} {l : Loc} {o : Nat} (h : o ≠ id) : addL locs id l o = locs o := if_neg h
section
variable {P : Program} {ext : Nat → Prop} {w0 : World} {own0 : Own0} {locs : Locs} {h : List Ob} {w w' : World}
theorem addS_mono {id : Nat} {l : Loc} {S : Nat → Prop} (hn : locs id = none) (o : Nat) (x : Loc) (hx : locs o = some x) : addS locs id l S o = some x := by
 by_cases e : o = id
 ·subst e; rw [hn] at hx; cases hx
 ·rw [addS_ne e]; exact hx
theorem addL_mono {id : Nat} {l : Loc} (hn : locs id = none) (o : Nat) (x : Loc) (hx : locs o = some x) : addL locs id l o = some x := addS_mono hn o x hx
theorem live_lt {l : Loc} {ob : Ob} {B : Nat → Prop} {S : Nat → Prop} {d : Addr} (h : RepOb P w B locs S l ob) (hlv : ob.live = true) (hd : l.a = some d) : d.block < w.heap.size := by
 cases ob with
 | f et sz es =>
  obtain ⟨_, _, h5 | ⟨b, off, c, ty, h6, h7, _⟩⟩ := h
  ·rw [h5.2.1] at hd; cases hd
  ·rw [h6] at hd; cases hd
   rcases Nat.lt_or_ge b w.heap.size with h' | h'
   ·exact h'
   ·rw [Array.getElem?_eq_none h'] at h7; cases h7
 | g gt cs =>
  obtain ⟨_, b, c, h6, h7, _⟩ := h
  rw [h6] at hd; cases hd
  rcases Nat.lt_or_ge b w.heap.size with h' | h'
  ·exact h'
  ·rw [Array.getElem?_eq_none h'] at h7; cases h7
 | r s et sz es n fo =>
  obtain ⟨_, _, h5 | ⟨b, off, c, ty, SS, h6, h7, _⟩⟩ := h
  ·rw [h5.2.1] at hd; cases hd
  ·rw [h6] at hd; cases hd
   rcases Nat.lt_or_ge b w.heap.size with h' | h'
   ·exact h'
   ·rw [Array.getElem?_eq_none h'] at h7; cases h7
 | _ => cases hlv
theorem RepH.own_lt (H : RepH P ext w0 own0 locs h w) {b : Nat} (ho : ownB locs h b) : b < w.heap.size := by
 obtain ⟨o, l, d, ob, h1, h2, h3, h4, rfl⟩ := ho
 rcases H.ob o ob h1 with rfl | ⟨rfl, _⟩ | ⟨l', h5, h6⟩
 ·cases h2
 ·cases h2
 ·rw [h3] at h5; cases h5
  exact h4.elim (fun h4 => live_lt h6 h2 h4) (fun h4 => H.ownlt o _ h4)
theorem RepH.newS (H : RepH P ext w0 own0 locs h w) {id : Nat} (hf : freshO h id) (hw : ∀ b, b < w.heap.size → w'.heap[b]? = w.heap[b]?) (hsz : w.heap.size ≤ w'.heap.size)
  (hos : w'.os = w.os) (htape : w'.tape = w.tape) (hout : w'.output = w.output) (l : Loc) (S : Nat → Prop) (ob : Ob) (hd : ob.live = true → ∀ d, l.a = some d → w.heap.size ≤ d.block) (hS : ∀ b, S b → w.heap.size ≤ b ∧ b < w'.heap.size)
  (hob : Later w (Bar ext locs h) w' (Bar ext (addS locs id l S) (putO h id ob)) → RepOb P w' (Bar ext (addS locs id l S) (putO h id ob)) (addS locs id l S) S l ob) :
  RepH P ext w0 own0 (addS locs id l S) (putO h id ob) w' ∧ Later w (Bar ext locs h) w' (Bar ext (addS locs id l S) (putO h id ob)) := by
 obtain ⟨hn, hle⟩ := fresh_none H hf
 have hg := fun k => putO_get (ob := ob) hle k
 have hnew : ∀ d, ob.live = true → (addS locs id l S).hs id l d → w.heap.size ≤ d.block := fun d hlv hd' => hd'.elim (hd hlv d) (fun h' => by rw [addS_own] at h'; exact (hS _ h').1)
 refine H.step (fun o => o = id) (fun _ => False) (fun b hb _ => hw b hb) hsz hos htape hout (fun _ _ hd => hd.elim) (addS_mono hn) (fun o ho => ?_) (fun o ob' hne ho => ?_) (fun o b hb => ?_)
  (fun _ _ _ _ _ _ _ _ _ hd => hd) (fun b hb ho => ?_) (fun o o' l1 l2 ob1 ob2 d d' hc hne ho ho' hlv hlv' hlo hlo' hda hda' => ?_) (fun lt o ob' hc ho => ?_)
 ·have := putO_len (h := h) (o := id) (ob := ob)
  rw [addS_ne (by have := this.2 hle; omega)]
  exact H.len o (by omega)
 ·rw [hg, if_neg hne] at ho
  exact ⟨ho, addS_ne hne, addS_own_ne hne⟩
 ·by_cases e : o = id
  ·subst e; rw [addS_own] at hb; exact (hS b hb).2
  ·rw [addS_own_ne e] at hb; exact Nat.lt_of_lt_of_le (H.ownlt o b hb) hsz
 ·obtain ⟨o, l', d, ob', h1, h2, h3, h4, rfl⟩ := ho
  rw [hg] at h1
  by_cases e : o = id
  ·subst e
   rw [if_pos rfl] at h1
   rw [addS_at] at h3
   cases h1; cases h3
   have := hnew d h2 h4
   omega
  ·rw [if_neg e] at h1
   rw [addS_ne e] at h3
   exact ⟨o, l', d, ob', h1, h2, h3, by simpa [Locs.hs, addS_own_ne e] using h4, rfl⟩
 ·subst hc
  rw [hg, if_pos rfl] at ho
  cases ho
  rw [addS_at] at hlo
  cases hlo
  rw [hg, if_neg (fun e => hne e.symm)] at ho'
  rw [addS_ne (fun e => hne e.symm)] at hlo'
  have h1 := hnew d hlv hda
  have h2 := H.own_lt ⟨o', l2, d', ob2, ho', hlv', hlo', by simpa [Locs.hs, addS_own_ne (fun e => hne e.symm)] using hda', rfl⟩
  omega
 ·subst hc
  rw [hg, if_pos rfl] at ho
  cases ho
  exact .inr (.inr ⟨l, addS_at, by rw [addS_own]; exact hob lt⟩)
theorem RepH.new (H : RepH P ext w0 own0 locs h w) {id : Nat} (hf : freshO h id) (hw : ∀ b, b < w.heap.size → w'.heap[b]? = w.heap[b]?) (hsz : w.heap.size ≤ w'.heap.size)
  (hos : w'.os = w.os) (htape : w'.tape = w.tape) (hout : w'.output = w.output) (l : Loc) (ob : Ob) (hd : ob.live = true → ∀ d, l.a = some d → w.heap.size ≤ d.block)
  (hob : Later w (Bar ext locs h) w' (Bar ext (addL locs id l) (putO h id ob)) → RepOb P w' (Bar ext (addL locs id l) (putO h id ob)) (addL locs id l) (fun _ => False) l ob) :
  RepH P ext w0 own0 (addL locs id l) (putO h id ob) w' ∧ Later w (Bar ext locs h) w' (Bar ext (addL locs id l) (putO h id ob)) :=
 H.newS hf hw hsz hos htape hout l (fun _ => False) ob hd (fun _ h => h.elim) hob
theorem set_get {o : Nat} {ob : Ob} {ob0 : Ob} (ho : h[o]? = some ob0) (k : Nat) : (h.set o ob)[k]? = if k = o then some ob else h[k]? := by
 have hlt : o < h.length := by
  rcases Nat.lt_or_ge o h.length with h' | h'
  ·exact h'
  ·rw [List.getElem?_eq_none h'] at ho; cases ho
 rw [List.getElem?_set]
 by_cases e : o = k
 ·subst e; simp [hlt]
 ·rw [if_neg e, if_neg (fun e' => e e'.symm)]
theorem RepH.upd (H : RepH P ext w0 own0 locs h w) {o : Nat} {ob0 ob : Ob} {l : Loc} {d : Addr} (ho : h[o]? = some ob0) (hlv : ob0.live = true) (hl : locs o = some l) (hd : l.a = some d)
  (hw : ∀ b, b < w.heap.size → b ≠ d.block → w'.heap[b]? = w.heap[b]?) (hsz : w.heap.size ≤ w'.heap.size) (hos : w'.os = w.os) (htape : w'.tape = w.tape) (hout : w'.output = w.output)
  (hob : Later w (Bar ext locs h) w' (Bar ext locs (h.set o ob)) → RepOb P w' (Bar ext locs (h.set o ob)) locs (locs.own o) l ob) :
  RepH P ext w0 own0 locs (h.set o ob) w' ∧ Later w (Bar ext locs h) w' (Bar ext locs (h.set o ob)) := by
 have hg := fun k => set_get (ob := ob) ho k
 refine H.step (fun k => k = o) (fun b => b = d.block) (fun b hb hne => hw b hb hne) hsz hos htape hout (fun b _ hb => ⟨o, l, d, ob0, ho, hlv, hl, .inl hd, hb.symm⟩) (fun _ _ hx => hx) (fun k hk => H.len k (by simpa using hk))
  (fun k ob' hne hk => ?_) (fun k b hb => Nat.lt_of_lt_of_le (H.ownlt k b hb) hsz) (fun k l' ob' d' hne hk hlv' hl' hd' => ?_) (fun b hb hb' => ?_) (fun k k' l1 l2 ob1 ob2 d1 d2 hc hne hk hk' hlv1 hlv2 hl1 hl2 hd1 hd2 => ?_) (fun lt k ob' hc hk => ?_)
 ·rw [hg, if_neg hne] at hk
  exact ⟨hk, rfl, rfl⟩
 ·exact H.apart k o l' l ob' ob0 d' d hne hk ho hlv' hlv hl' hl hd' (.inl hd)
 ·obtain ⟨k, l', d', ob', h1, h2, h3, h4, rfl⟩ := hb'
  rw [hg] at h1
  by_cases e : k = o
  ·subst e
   rw [hl] at h3; cases h3
   exact ⟨k, l, d', ob0, ho, hlv, hl, h4, rfl⟩
  ·rw [if_neg e] at h1
   exact ⟨k, l', d', ob', h1, h2, h3, h4, rfl⟩
 ·subst hc
  rw [hg, if_neg (fun e => hne e.symm)] at hk'
  rw [hl] at hl1; cases hl1
  exact H.apart k k' l l2 ob0 ob2 d1 d2 hne ho hk' hlv hlv2 hl hl2 hd1 hd2
 ·subst hc
  rw [hg, if_pos rfl] at hk
  cases hk
  exact .inr (.inr ⟨l, hl, hob lt⟩)
theorem RepH.moveS (H : RepH P ext w0 own0 locs h w) {o id : Nat} {ob0 ob : Ob} {l l' : Loc} {S : Nat → Prop} (ho : h[o]? = some ob0) (hlv : ob0.live = true) (hl : locs o = some l) (hf : freshO h id)
  (hd' : ∀ d', l'.a = some d' ∨ S d'.block → w.heap.size ≤ d'.block ∨ ∃ d, locs.hs o l d ∧ d'.block = d.block) (hS : ∀ b, S b → b < w'.heap.size)
  (hw : ∀ b, b < w.heap.size → (∀ d, l.a = some d → b ≠ d.block) → w'.heap[b]? = w.heap[b]?) (hsz : w.heap.size ≤ w'.heap.size) (hos : w'.os = w.os) (htape : w'.tape = w.tape) (hout : w'.output = w.output)
  (hob : Later w (Bar ext locs h) w' (Bar ext (addS locs id l' S) (putO (h.set o .no) id ob)) → RepOb P w' (Bar ext (addS locs id l' S) (putO (h.set o .no) id ob)) (addS locs id l' S) S l' ob) :
  RepH P ext w0 own0 (addS locs id l' S) (putO (h.set o .no) id ob) w' ∧ Later w (Bar ext locs h) w' (Bar ext (addS locs id l' S) (putO (h.set o .no) id ob)) := by
 obtain ⟨hn, hle⟩ := fresh_none H hf
 have hne' : o ≠ id := by rintro rfl; rw [hl] at hn; cases hn
 have hg : ∀ k, (putO (h.set o .no) id ob)[k]? = if k = id then some ob else if k = o then some .no else h[k]? := fun k => by
  rw [putO_get (by simpa using hle), set_get ho]
 have hat : ∀ d', (addS locs id l' S).hs id l' d' → w.heap.size ≤ d'.block ∨ ∃ d, locs.hs o l d ∧ d'.block = d.block := fun d' h' => hd' d' (by simpa [Locs.hs, addS_own] using h')
 refine H.step (fun k => k = o ∨ k = id) (fun b => ∃ d, l.a = some d ∧ b = d.block) (fun b hb hne => hw b hb (fun d hd e => hne ⟨d, hd, e⟩)) hsz hos htape hout (fun b _ ⟨d, hd, hb⟩ => ⟨o, l, d, ob0, ho, hlv, hl, .inl hd, hb.symm⟩) (addS_mono hn) (fun k hk => ?_)
  (fun k ob' hne hk => ?_) (fun k b hb => ?_) (fun k l' ob' d' hne hk hlv' hl' hd' => ?_) (fun b hb hb' => ?_) (fun k k' l1 l2 ob1 ob2 d1 d2 hc hne hk hk' hlv1 hlv2 hl1 hl2 hd1 hd2 => ?_) (fun lt k ob' hc hk => ?_)
 ·have := putO_len (h := h.set o .no) (o := id) (ob := ob)
  simp only [List.length_set] at this
  rw [addS_ne (by have := this.2 hle; omega)]
  exact H.len k (by omega)
 ·rw [hg, if_neg (fun e => hne (.inr e)), if_neg (fun e => hne (.inl e))] at hk
  exact ⟨hk, addS_ne (fun e => hne (.inr e)), addS_own_ne (fun e => hne (.inr e))⟩
 ·by_cases e : k = id
  ·subst e; rw [addS_own] at hb; exact hS b hb
  ·rw [addS_own_ne e] at hb; exact Nat.lt_of_lt_of_le (H.ownlt k b hb) hsz
 ·rintro ⟨d, hd, e⟩
  exact H.apart k o l' l ob' ob0 d' d (fun e => hne (.inl e)) hk ho hlv' hlv hl' hl hd' (.inl hd) e
 ·obtain ⟨k, l1, d1, ob', h1, h2, h3, h4, rfl⟩ := hb'
  rw [hg] at h1
  by_cases e : k = id
  ·subst e
   rw [if_pos rfl] at h1
   rw [addS_at] at h3
   cases h3
   rcases hat d1 h4 with h5 | ⟨d, h5, h6⟩
   ·omega
   ·exact ⟨o, l, d, ob0, ho, hlv, hl, h5, h6.symm⟩
  ·rw [if_neg e] at h1
   rw [addS_ne e] at h3
   by_cases e' : k = o
   ·rw [if_pos e'] at h1; cases h1; cases h2
   ·rw [if_neg e'] at h1
    exact ⟨k, l1, d1, ob', h1, h2, h3, by simpa [Locs.hs, addS_own_ne e] using h4, rfl⟩
 ·rcases hc with rfl | rfl
  ·rw [hg, if_neg hne', if_pos rfl] at hk; cases hk; cases hlv1
  ·rw [hg, if_pos rfl] at hk
   cases hk
   rw [addS_at] at hl1
   cases hl1
   rw [hg, if_neg (fun e => hne e.symm)] at hk'
   rw [addS_ne (fun e => hne e.symm)] at hl2
   have hd2' : locs.hs k' l2 d2 := by simpa [Locs.hs, addS_own_ne (fun e => hne e.symm)] using hd2
   by_cases e' : k' = o
   ·rw [if_pos e'] at hk'; cases hk'; cases hlv2
   ·rw [if_neg e'] at hk'
    rcases hat d1 hd1 with h5 | ⟨d, h5, h6⟩
    ·have h2 := H.own_lt ⟨k', l2, d2, ob2, hk', hlv2, hl2, hd2', rfl⟩
     omega
    ·rw [h6]
     exact fun e => H.apart k' o l2 l ob2 ob0 d2 d e' hk' ho hlv2 hlv hl2 hl hd2' h5 e.symm
 ·rcases hc with rfl | rfl
  ·rw [hg, if_neg hne', if_pos rfl] at hk; cases hk; exact .inl rfl
  ·rw [hg, if_pos rfl] at hk
   cases hk
   exact .inr (.inr ⟨l', addS_at, by rw [addS_own]; exact hob lt⟩)
theorem RepH.move (H : RepH P ext w0 own0 locs h w) {o id : Nat} {ob0 ob : Ob} {l l' : Loc} (ho : h[o]? = some ob0) (hlv : ob0.live = true) (hl : locs o = some l) (hf : freshO h id)
  (hd' : ∀ d', l'.a = some d' → w.heap.size ≤ d'.block ∨ ∃ d, l.a = some d ∧ d'.block = d.block)
  (hw : ∀ b, b < w.heap.size → (∀ d, l.a = some d → b ≠ d.block) → w'.heap[b]? = w.heap[b]?) (hsz : w.heap.size ≤ w'.heap.size) (hos : w'.os = w.os) (htape : w'.tape = w.tape) (hout : w'.output = w.output)
  (hob : Later w (Bar ext locs h) w' (Bar ext (addL locs id l') (putO (h.set o .no) id ob)) → RepOb P w' (Bar ext (addL locs id l') (putO (h.set o .no) id ob)) (addL locs id l') (fun _ => False) l' ob) :
  RepH P ext w0 own0 (addL locs id l') (putO (h.set o .no) id ob) w' ∧ Later w (Bar ext locs h) w' (Bar ext (addL locs id l') (putO (h.set o .no) id ob)) :=
 H.moveS (S := fun _ => False) ho hlv hl hf (fun d' h => h.elim (fun h => (hd' d' h).imp_right fun ⟨d, h1, h2⟩ => ⟨d, .inl h1, h2⟩) (fun h => h.elim)) (fun _ h => h.elim) hw hsz hos htape hout hob
theorem RepH.frz (H : RepH P ext w0 own0 locs h w) {o et sz : Nat} {es : List (List FV)} (ho : h[o]? = some (.f et sz es)) :
  RepH P ext w0 own0 locs (h.set o (.z sz es)) w ∧ Later w (Bar ext locs h) w (Bar ext locs (h.set o (.z sz es))) := by
 have hg := fun k => set_get (ob := .z sz es) ho k
 have hsub : ∀ b, ownB locs (h.set o (.z sz es)) b → ownB locs h b := by
  rintro b ⟨k, l', d', ob', h1, h2, h3, h4, rfl⟩
  rw [hg] at h1
  by_cases e : k = o
  ·rw [if_pos e] at h1; cases h1; cases h2
  ·rw [if_neg e] at h1; exact ⟨k, l', d', ob', h1, h2, h3, h4, rfl⟩
 refine H.step (fun k => k = o) (fun _ => False) (fun b hb _ => rfl) (Nat.le_refl _) rfl rfl rfl (fun _ _ hd => hd.elim) (fun _ _ hx => hx) (fun k hk => H.len k (by simpa using hk))
  (fun k ob' hne hk => ?_) H.ownlt (fun _ _ _ _ _ _ _ _ _ hd => hd) (fun b hb hb' => hsub b hb') (fun k k' l1 l2 ob1 ob2 d1 d2 hc hne hk hk' hlv1 hlv2 hl1 hl2 hd1 hd2 => ?_) (fun lt k ob' hc hk => ?_)
 ·rw [hg, if_neg hne] at hk
  exact ⟨hk, rfl, rfl⟩
 ·subst hc
  rw [hg, if_pos rfl] at hk; cases hk; cases hlv1
 ·subst hc
  rw [hg, if_pos rfl] at hk
  cases hk
  rcases H.ob k _ ho with h1 | ⟨h1, _⟩ | ⟨l, h1, h2, h3, h4⟩
  ·cases h1
  ·cases h1
  ·refine .inr (.inr ⟨l, h1, h2, h3, ?_⟩)
   rcases h4 with h4 | ⟨b, off, c, ty, h5, h6, het, h7, h8, h9⟩
   ·exact .inl h4.1
   ·refine .inr ⟨b, off, h5, fun i e he => ?_⟩
    obtain ⟨h10, h11⟩ := h9 i e he
    refine ⟨h10, fun j x hx => ?_⟩
    obtain ⟨v, hv, hr⟩ := h11 j x hx
    refine ⟨?_, v, by simp [World.cell?, h6, hv], hr.later lt⟩
    rintro (hb | ⟨k', l', d', ob', g1, g2, g3, g4, g5⟩)
    ·exact H.extOwn b hb ⟨k, l, _, _, ho, rfl, h1, .inl h5, rfl⟩
    ·rw [hg] at g1
     by_cases e : k' = k
     ·rw [if_pos e] at g1; cases g1; cases g2
     ·rw [if_neg e] at g1
      exact H.apart k' k l' l ob' _ d' _ e g1 ho g2 rfl g3 h1 g4 (.inl h5) g5
theorem RepH.frzR (H : RepH P ext w0 own0 locs h w) {o s et sz : Nat} {es : List (List FV)} {n : Option Nat} (ho : h[o]? = some (.r s et sz es n none)) :
  RepH P ext w0 own0 locs (h.set o (.z sz es)) w ∧ Later w (Bar ext locs h) w (Bar ext locs (h.set o (.z sz es))) := by
 have hg := fun k => set_get (ob := .z sz es) ho k
 have hsub : ∀ b, ownB locs (h.set o (.z sz es)) b → ownB locs h b := by
  rintro b ⟨k, l', d', ob', h1, h2, h3, h4, rfl⟩
  rw [hg] at h1
  by_cases e : k = o
  ·rw [if_pos e] at h1; cases h1; cases h2
  ·rw [if_neg e] at h1; exact ⟨k, l', d', ob', h1, h2, h3, h4, rfl⟩
 refine H.step (fun k => k = o) (fun _ => False) (fun b hb _ => rfl) (Nat.le_refl _) rfl rfl rfl (fun _ _ hd => hd.elim) (fun _ _ hx => hx) (fun k hk => H.len k (by simpa using hk))
  (fun k ob' hne hk => ?_) H.ownlt (fun _ _ _ _ _ _ _ _ _ hd => hd) (fun b hb hb' => hsub b hb') (fun k k' l1 l2 ob1 ob2 d1 d2 hc hne hk hk' hlv1 hlv2 hl1 hl2 hd1 hd2 => ?_) (fun lt k ob' hc hk => ?_)
 ·rw [hg, if_neg hne] at hk
  exact ⟨hk, rfl, rfl⟩
 ·subst hc
  rw [hg, if_pos rfl] at hk; cases hk; cases hlv1
 ·subst hc
  rw [hg, if_pos rfl] at hk
  cases hk
  rcases H.ob k _ ho with h1 | ⟨h1, _⟩ | ⟨l, h1, h2, h3, h4⟩
  ·cases h1
  ·cases h1
  ·refine .inr (.inr ⟨l, h1, h2, h3, ?_⟩)
   rcases h4 with h4 | ⟨b, off, c, ty, SS, h5, h6, het, h7, h8, hp, h9⟩
   ·exact .inl h4.1
   ·have hno : ∀ d, locs.hs k l d → ¬ Bar ext locs (h.set k (.z sz es)) d.block := by
     rintro d hd (hb | ⟨k', l', d', ob', g1, g2, g3, g4, g5⟩)
     ·exact H.extOwn d.block hb ⟨k, l, d, _, ho, rfl, h1, hd, rfl⟩
     ·rw [hg] at g1
      by_cases e : k' = k
      ·rw [if_pos e] at g1; cases g1; cases g2
      ·rw [if_neg e] at g1
       exact H.apart k' k l' l ob' _ d' d e g1 ho g2 rfl g3 h1 g4 hd g5
    refine .inr ⟨b, off, h5, fun i e he => ?_⟩
    obtain ⟨h10, h11⟩ := h9 i e he
    refine ⟨h10, fun j x hx => ?_⟩
    obtain ⟨v, hv, hr⟩ := h11 j x hx
    refine ⟨hno _ (.inl h5), v, by simp [World.cell?, h6, hv], ?_⟩
    unfold CR at hr
    split at hr
    ·exact hr.later lt
    ·rcases hr with ⟨_, _, hr⟩ | ⟨_, ⟨o, sz', hr, _⟩ | ⟨_, hr⟩⟩
     ·exact hr.later lt
     ·cases hr
     ·exact hr.frz lt (fun b' hb' => hno ⟨b', 0, none⟩ (.inr (hp.sub i j b' hb').1))
theorem RepH.frzG (H : RepH P ext w0 own0 locs h w) {o : Nat} {gt : TypeId} {cs : List AV} {fs : List FV} (ho : h[o]? = some (.g gt cs)) (hfs : frzL cs = some fs) :
  RepH P ext w0 own0 locs (h.set o (.z cs.length [fs])) w ∧ Later w (Bar ext locs h) w (Bar ext locs (h.set o (.z cs.length [fs]))) := by
 have hg := fun k => set_get (ob := .z cs.length [fs]) ho k
 have hsub : ∀ b, ownB locs (h.set o (.z cs.length [fs])) b → ownB locs h b := by
  rintro b ⟨k, l', d', ob', h1, h2, h3, h4, rfl⟩
  rw [hg] at h1
  by_cases e : k = o
  ·rw [if_pos e] at h1; cases h1; cases h2
  ·rw [if_neg e] at h1; exact ⟨k, l', d', ob', h1, h2, h3, h4, rfl⟩
 refine H.step (fun k => k = o) (fun _ => False) (fun b hb _ => rfl) (Nat.le_refl _) rfl rfl rfl (fun _ _ hd => hd.elim) (fun _ _ hx => hx) (fun k hk => H.len k (by simpa using hk))
  (fun k ob' hne hk => ?_) H.ownlt (fun _ _ _ _ _ _ _ _ _ hd => hd) (fun b hb hb' => hsub b hb') (fun k k' l1 l2 ob1 ob2 d1 d2 hc hne hk hk' hlv1 hlv2 hl1 hl2 hd1 hd2 => ?_) (fun lt k ob' hc hk => ?_)
 ·rw [hg, if_neg hne] at hk
  exact ⟨hk, rfl, rfl⟩
 ·subst hc
  rw [hg, if_pos rfl] at hk; cases hk; cases hlv1
 ·subst hc
  rw [hg, if_pos rfl] at hk
  cases hk
  rcases H.ob k _ ho with h1 | ⟨h1, _⟩ | ⟨l, h1, h2, h3, h4⟩
  ·cases h1
  ·cases h1
  ·obtain ⟨h2, h2'⟩ := h2
   obtain ⟨c, h5, h6, h7, h8⟩ := h4
   obtain ⟨hlen, hcell⟩ := frzL_ok (w := w) (B := Bar ext locs h) (locs := locs) hfs
   refine .inr (.inr ⟨l, h1, h2, h2', .inr ⟨h3, 0, h5, fun i e he => ?_⟩⟩)
   have hi : i = 0 ∧ e = fs := by
    cases i with
    | zero => cases he; exact ⟨rfl, rfl⟩
    | succ i => simp at he
   obtain ⟨rfl, rfl⟩ := hi
   refine ⟨hlen, fun j x hx => ?_⟩
   obtain ⟨v, hv, hr⟩ := hcell c.toList (fun j x hx => by obtain ⟨u, hu, hra⟩ := h8 j x hx; exact ⟨u, by simpa using hu, hra⟩) j x hx
   have hv' : c[j]? = some v := by simpa using hv
   refine ⟨?_, v, by simp [World.cell?, h6, hv'], hr.later lt⟩
   rintro (hb | ⟨k', l', d', ob', g1, g2, g3, g4, g5⟩)
   ·exact H.extOwn h3 hb ⟨k, l, _, _, ho, rfl, h1, .inl h5, rfl⟩
   ·rw [hg] at g1
    by_cases e : k' = k
    ·rw [if_pos e] at g1; cases g1; cases g2
    ·rw [if_neg e] at g1
     exact H.apart k' k l' l ob' _ d' _ e g1 ho g2 rfl g3 h1 g4 (.inl h5) g5
end
end
section
def OpOK (P : Program) (o : Oper) (t : List TV) (h : List Ob) (id : Nat) (v : TV) (wr : List (Nat × Ob)) (rd : List Nat) : Prop :=
 ∀ (ext : Nat → Prop) (w0 : World) (own0 : Own0) (t' : List TV) (h' : List Ob) (a : Act) (w : World) (Q : Exit → Act → World → Prop),
  t'.length = t.length → (∀ x ∈ o.op.operands, ev t' x = ev t x) → (∀ i ∈ rd, h'[i]? = h[i]?) → freshO h' id → Rep P ext w0 own0 ⟨t', h'⟩ a w →
  o.wp P a w (fun a' w' => Rep P ext w0 own0 ⟨putT t' o.dst v, putOs h' wr⟩ a' w') Q
def maskT (xs : List Operand) (t : List TV) : List TV := t.zipIdx.map fun (v, i) => if xs.any (fun x => match x with | .tmp j => j == i | _ => false) then v else .und
theorem maskT_ev (xs : List Operand) (t : List TV) : ∀ x ∈ xs, ev (maskT xs t) x = ev t x := by
 intro x hx
 cases x with
 | tmp i =>
  simp only [ev, maskT, List.getD_eq_getElem?_getD, List.getElem?_map, List.getElem?_zipIdx]
  cases ht : t[i]? with
  | none => simp
  | some v =>
   have : (xs.any fun x => match x with | .tmp j => j == i | _ => false) = true := by
    rw [List.any_eq_true]
    exact ⟨.tmp i, hx, by simp⟩
   simp only [Option.map_some, Option.getD_some, Nat.zero_add]
   rw [if_pos this]
 | _ => rfl
theorem partsA_congr {t t' : List TV} : ∀ (ps : List (Nat × Operand)), (∀ x ∈ ps.map (·.2), ev t x = ev t' x) → partsA t ps = partsA t' ps
 | [], _ => rfl
 | (i, x) :: r, h => by
  unfold partsA
  rw [h x (by simp), partsA_congr r (fun y hy => h y (by simp [hy]))]
theorem bound_congr {t t' : List TV} (x : Option Operand) (h : ∀ y ∈ x.toList, ev t y = ev t' y) : bound t x = bound t' x := by
 cases x with
 | none => rfl
 | some y => unfold bound; simp only; rw [h y (by simp)]
theorem evPure_congr {P : Program} {op : Op} {ty : TypeId} {t t' : List TV} {K : TV → Prop} (h : ∀ x ∈ op.operands, ev t x = ev t' x) (he : evPure P op ty t K) : evPure P op ty t' K := by
 unfold evPure at he ⊢
 split at he
 ·simp only [Op.operands] at h; rw [← h _ (by simp)]; exact he
 ·simp only [Op.operands] at h; rw [← h _ (by simp)]; exact he
 ·rename_i c a b
  simp only [Op.operands] at h
  rw [← h c (by simp)]
  have e1 := h a (by simp)
  have e2 := h b (by simp)
  have : (fun p => K (ev t (if p = true then a else b))) = fun p => K (ev t' (if p = true then a else b)) := by
   funext p; cases p
   ·simp [e2]
   ·simp [e1]
  rw [← this]; exact he
 ·simp only [Op.operands] at h; rw [← h _ (by simp), ← h _ (by simp)]; exact he
 ·simp only [Op.operands] at h; rw [← h _ (by simp)]; exact he
 ·simp only [Op.operands] at h; rw [← h _ (by simp)]; exact he
 ·simp only [Op.operands] at h; rw [← h _ (by simp)]; exact he
 ·simp only [Op.operands] at h; rw [← h _ (by simp)]; exact he
 ·simp only [Op.operands] at h; rw [← h _ (by simp), ← h _ (by simp)]; exact he
 ·simp only [Op.operands] at h; rw [← h _ (by simp)]; exact he
 ·simp only [Op.operands] at h; rw [← h _ (by simp), ← h _ (by simp)]; exact he
 ·rename_i ty x lo hi mx
  simp only [Op.operands] at h
  rw [← bound_congr lo (fun y hy => h y (by cases lo <;> simp_all)), ← bound_congr hi (fun y hy => h y (by cases hi <;> simp_all)), ← bound_congr mx (fun y hy => h y (by cases mx <;> simp_all)), ← h x (by simp)]
  exact he
 ·rename_i ty parts
  simp only [Op.operands] at h
  unfold evBuild at he ⊢
  rw [← partsA_congr parts.toList (fun y hy => h y (by simpa using hy))]
  exact he
 ·simp only [Op.operands] at h; rw [← h _ (by simp)]; exact he
 ·rename_i fn first caps
  simp only [Op.operands] at h
  unfold evMakeFunc at he ⊢
  rw [← List.map_congr_left (fun y hy => h y (by simp; exact .inr (by simpa using hy)))]
  exact he
 ·rename_i args argTypes
  simp only [Op.operands, Call.operands] at h
  split at he
  ·rename_i x ty hx hty
   rw [← h x (by have : x ∈ args.toList := by rw [hx]; simp
                 simpa using this)]
   exact he
  ·exact he.elim
 ·rename_i args argTypes
  simp only [Op.operands, Call.operands] at h
  split at he
  ·rename_i x y hx
   rw [← h x (by have : x ∈ args.toList := by rw [hx]; simp
                 simpa using this), ← h y (by have : y ∈ args.toList := by rw [hx]; simp
                                              simpa using this)]
   exact he
  ·exact he.elim
 ·rename_i args argTypes
  simp only [Op.operands, Call.operands] at h
  split at he
  ·rename_i x y hx
   rw [← h x (by have : x ∈ args.toList := by rw [hx]; simp
                 simpa using this), ← h y (by have : y ∈ args.toList := by rw [hx]; simp
                                              simpa using this)]
   exact he
  ·exact he.elim
 ·rename_i args argTypes
  simp only [Op.operands, Call.operands] at h
  split at he
  ·rename_i x ty hx hty
   rw [← h x (by have : x ∈ args.toList := by rw [hx]; simp
                 simpa using this)]
   exact he
  ·exact he.elim
 ·exact he.elim
theorem RepH.tabRep {P : Program} {ext : Nat → Prop} {w0 : World} {own0 : Own0} {locs : Locs} {h : List Ob} {w : World} (H : RepH P ext w0 own0 locs h w) : ∀ x ∈ tabs, TabAt w (Bar ext locs h) x.1 x.2 ∧ ¬ Bar ext locs h x.1 :=
 fun x hx => ⟨(H.glob x hx).later (Later.all _ _ _) rfl, fun hb => H.barTab _ hb ⟨x, hx, rfl⟩⟩
theorem Rep.repT {P : Program} {ext : Nat → Prop} {w0 : World} {own0 : Own0} {st : St} {a : Act} {w : World} (R : Rep P ext w0 own0 st a w) : ∃ locs, RepH P ext w0 own0 locs st.h w ∧ RepT w (Bar ext locs st.h) locs st.t a := by
 obtain ⟨locs, H, h⟩ := R.mem
 exact ⟨locs, H, H.tabRep, h⟩
theorem Rep.mkput {P : Program} {ext : Nat → Prop} {w0 : World} {own0 : Own0} {t : List TV} {h h' : List Ob} {a : Act} {w w' : World} {locs locs' : Locs} (R : Rep P ext w0 own0 ⟨t, h⟩ a w)
  (RTm : RepT w (Bar ext locs h) locs t a) (H' : RepH P ext w0 own0 locs' h' w') (lt : Later w (Bar ext locs h) w' (Bar ext locs' h')) (hl : ∀ (o : Nat) (x : Loc), locs o = some x → locs' o = some x)
  (dst : Option Tmp) (v : TV) (vc : Value) (hv : RT w' (Bar ext locs' h') locs' v vc) : Rep P ext w0 own0 ⟨putT t dst v, h'⟩ (a.put dst vc) w' := by
 refine ⟨?_, ?_, locs', H', ?_⟩
 ·have := R.defers; cases dst <;> exact this
 ·have := R.size
  cases dst <;> simpa [Act.put, putT] using this
 ·intro i x hx
  cases dst with
  | none =>
   obtain ⟨u, hu, hr⟩ := RTm i x hx
   exact ⟨u, hu, hr.later lt hl⟩
  | some d =>
   simp only [putT] at hx
   rw [List.getElem?_set] at hx
   by_cases e : d = i
   ·subst e
    rw [if_pos rfl] at hx
    split at hx
    ·rename_i hlt
     cases hx
     have hs : d < a.tmps.size := by rw [R.size]; exact hlt
     exact ⟨vc, by simp [Act.put, hs], hv⟩
    ·cases hx
   ·rw [if_neg e] at hx
    obtain ⟨u, hu, hr⟩ := RTm i x hx
    exact ⟨u, by simp [Act.put, Array.getElem?_setIfInBounds_ne e, hu], hr.later lt hl⟩
theorem Later.refl (w : World) (B : Nat → Prop) : Later w B w B := ⟨fun _ _ _ => rfl, fun _ _ h => h⟩
theorem wp_value {P : Program} {o : Oper} {a : Act} {w w' : World} {v : Value} {K : Act → World → Prop} {Q : Exit → Act → World → Prop} (h : (execOp a.eval o).run P w = .ok (.value v) w') (hk : K (a.put o.dst v) w') : o.wp P a w K Q := by
 unfold Oper.wp
 rw [h]
 exact hk
theorem wp_skip' {P : Program} {o : Oper} {a : Act} {w w' : World} {K : Act → World → Prop} {Q : Exit → Act → World → Prop} (h : (execOp a.eval o).run P w = .ok .skip w') (hk : K (a.put o.dst undef) w') : o.wp P a w K Q := by
 unfold Oper.wp
 rw [h]
 exact hk
theorem pure_ok {P : Program} {o : Oper} {t : List TV} {K : TV → Prop} (he : evPure P o.op o.type t K) (h : List Ob) (id : Nat) : ∃ v, K v ∧ OpOK P o t h id v [] [] := by
 have hm := maskT_ev o.op.operands.toList t
 have he' := evPure_congr (t' := maskT o.op.operands.toList t) (fun x hx => (hm x (by simpa using hx)).symm) he
 obtain ⟨v, hk, hv⟩ := evPure_ok he'
 refine ⟨v, hk, fun ext w0 own0 t' h' a w Q hlen hag _ _ R => ?_⟩
 obtain ⟨locs, H, RTm⟩ := R.repT
 have hrm : RepT w (Bar ext locs h') locs (maskT o.op.operands.toList t) a := by
  refine ⟨RTm.tab, fun i x hx => ?_⟩
  have hi : i < t.length := by
   rcases Nat.lt_or_ge i t.length with h' | h'
   ·exact h'
   ·rw [List.getElem?_eq_none (by simpa [maskT] using h')] at hx; cases hx
  have hi' : i < a.tmps.size := by rw [R.size]; simp only; omega
  refine ⟨a.tmps[i], by simp [hi'], ?_⟩
  simp only [maskT, List.getElem?_map, List.getElem?_zipIdx, List.getElem?_eq_getElem hi, Option.map_some, Option.some.injEq, Nat.zero_add] at hx
  split at hx
  ·rename_i hany
   obtain ⟨y, hy, hyi⟩ := List.any_eq_true.1 hany
   cases y with
   | tmp j =>
    have : j = i := by simpa using hyi
    subst this
    have e1 := hag (.tmp j) (by simpa using hy)
    simp only [ev, List.getD_eq_getElem?_getD, List.getElem?_eq_getElem hi, Option.getD_some] at e1
    rw [hx] at e1
    obtain ⟨u, hu, hr⟩ := RTm j (t'[j]'(by omega)) (List.getElem?_eq_getElem _)
    rw [List.getElem?_eq_getElem (by omega), Option.getD_some] at e1
    rw [e1] at hr
    have : a.tmps[j] = u := by simpa [hi'] using hu
    rw [this]; exact hr
   | _ => simp at hyi
  ·subst hx; trivial
 obtain ⟨vc, h1, h2⟩ := hv w _ locs a hrm
 exact wp_value h1 (Rep.mkput R RTm H (Later.refl _ _) (fun _ _ h => h) o.dst v vc h2)
end
section
abbrev OpK := TV → List (Nat × Ob) → List Nat → Prop
def loadK (P : Program) (ty : TypeId) (c : Nat) (cs : List AV) (K : TV → Prop) : Prop :=
 match P.underlying ty with
 | some _ => if isAggB P ty then (if c + P.cellsOf ty ≤ cs.length then K (.agg ((cs.drop c).take (P.cellsOf ty))) else False) else
   match cs[c]? with
   | some a => K (.one a)
   | none => False
 | none => False
theorem loadK_ok {P : Program} {ty : TypeId} {c : Nat} {cs : List AV} {K : TV → Prop} (h : loadK P ty c cs K) : ∃ v, K v ∧ ∀ (w : World) (B : Nat → Prop) (locs : Locs) (b off : Nat),
  (∀ (j : Nat) (x : AV), cs[j]? = some x → ∃ u, w.cell? ⟨b, off + j, none⟩ = some u ∧ RA w B locs x u) → ∃ vc, (loadVar ty ⟨b, off + c, none⟩).run P w = .ok vc w ∧ RT w B locs v vc := by
 unfold loadK at h
 split at h
 ·rename_i d hd
  split at h
  ·rename_i ha
   split at h
   ·rename_i hle
    refine ⟨_, h, fun w B locs b off hc => ?_⟩
    have hlen : ((cs.drop c).take (P.cellsOf ty)).length = P.cellsOf ty := by simp; omega
    have hget : ∀ j x, ((cs.drop c).take (P.cellsOf ty))[j]? = some x → cs[c + j]? = some x ∧ j < P.cellsOf ty := by
     intro j x hx
     rw [List.getElem?_take] at hx
     split at hx
     ·rw [List.getElem?_drop] at hx; exact ⟨hx, ‹_›⟩
     ·cases hx
    have hrun := run_loadCells (P := P) w ⟨b, off + c, none⟩ (P.cellsOf ty) (fun j => (w.cell? ⟨b, off + (c + j), none⟩).getD undef) (fun j hj => by
     obtain ⟨u, hu, _⟩ := hc (c + j) (cs[c + j]'(by omega)) (List.getElem?_eq_getElem _)
     rw [add_mk, Nat.add_assoc, hu]; rfl)
    refine ⟨_, by simp only [loadVar, Sem.run_bind, run_isAgg hd, Result.andThen, ha, if_true, run_sizeOf hd, hrun, Sem.run_pure]; rfl, ?_⟩
    refine agg_mk (by simp; omega) fun j x hx => ?_
    obtain ⟨h1, h2⟩ := hget j x hx
    obtain ⟨u, hu, hr⟩ := hc _ _ h1
    exact ⟨u, by simp [h2, hu], hr⟩
   ·exact h.elim
  ·rename_i ha
   split at h
   ·rename_i a hca
    refine ⟨_, h, fun w B locs b off hc => ?_⟩
    obtain ⟨u, hu, hr⟩ := hc _ _ hca
    exact ⟨u, by simp [loadVar, run_isAgg hd, ha, hu], hr⟩
   ·exact h.elim
 ·exact h.elim
def evLoad (P : Program) (ty : TypeId) (x : TV) (h : List Ob) (K : OpK) : Prop :=
 match x with
 | .one (.ptr o e c ety) =>
  match getO h o with
  | .g gt cs => if e = 0 then loadK P ty c cs fun v => K v [] [o] else False
  | .f et sz es => exC (kinds P ety) fun cs => es[e]? = some cs ∧ loadK P ty c (cs.map .fz) fun v => K v [] [o]
  | .z sz es =>
   if ety = 0 then (match e, es with | 0, [cs] => loadK P ty c (cs.map .fz) fun v => K v [] [o] | _, _ => False)
   else exC (kinds P ety) fun cs => es[e]? = some cs ∧ loadK P ty c (cs.map .fz) fun v => K v [] [o]
  | _ => False
 | .one (.fz (.fp cs)) => loadK P ty 0 (cs.map .fz) fun v => K v [] []
 | _ => False
theorem getO_some {h : List Ob} {o : Nat} {ob : Ob} (hg : getO h o = ob) (hne : ob ≠ .no) : h[o]? = some ob := by
 unfold getO at hg
 rw [List.getD_eq_getElem?_getD] at hg
 cases ho : h[o]? with
 | none => rw [ho] at hg; exact absurd hg.symm hne
 | some x => rw [ho] at hg; cases hg; rfl
section
variable {P : Program} {ext : Nat → Prop} {w0 : World} {own0 : Own0} {locs : Locs} {h : List Ob} {w w' : World}
theorem RepH.get (H : RepH P ext w0 own0 locs h w) {o : Nat} {ob : Ob} (ho : h[o]? = some ob) (h1 : ob ≠ .no) (h2 : ob ≠ .rs) : ∃ l, locs o = some l ∧ RepOb P w (Bar ext locs h) locs (locs.own o) l ob := by
 rcases H.ob o ob ho with h3 | ⟨h3, _⟩ | h3
 ·exact absurd h3 h1
 ·exact absurd h3 h2
 ·exact h3
end
theorem map_fz {cs : List FV} {j : Nat} {x : AV} (hx : (cs.map AV.fz)[j]? = some x) : ∃ y, cs[j]? = some y ∧ x = .fz y := by
 simp only [List.getElem?_map, Option.map_eq_some_iff] at hx
 obtain ⟨y, h1, h2⟩ := hx
 exact ⟨y, h1, h2.symm⟩
theorem load_ok {P : Program} {o : Oper} {ty : TypeId} {x : Operand} (hop : o.op = .load ty x) {t : List TV} {h : List Ob} {id : Nat} {K : OpK} (he : evLoad P ty (ev t x) h K) :
  ∃ v wr rd, K v wr rd ∧ OpOK P o t h id v wr rd := by
 have hmem : x ∈ o.op.operands := by rw [hop]; simp [Op.operands]
 have hexec : ∀ a : Act, execOp a.eval o = (do let v ← Instr.loadAt ty (a.eval x); pure (.value v)) := fun a => by unfold execOp; rw [hop]
 unfold evLoad at he
 split at he
 ·rename_i q e c ety hx
  split at he
  ·rename_i cs ho
   split at he
   ·rename_i he0
    subst he0
    obtain ⟨v, hk, hv⟩ := loadK_ok he
    refine ⟨v, [], [q], hk, fun ext w0 own0 t' h' a w Q hlen hag hrd _ R => ?_⟩
    obtain ⟨locs, H, RTm⟩ := R.repT
    have hq := (hrd q (by simp)).trans (getO_some ho (by simp))
    obtain ⟨l, hl, hs, b, cc, hla, hheap, hsz, hcell⟩ := H.get hq (by simp) (by simp)
    have hp := ev_rep RTm x
    rw [hag x hmem, hx] at hp
    obtain ⟨l', d, h1, h2, h3⟩ := hp
    rw [hl] at h1; cases h1
    rw [hla] at h2; cases h2
    obtain ⟨vc, hrun, hr⟩ := hv w _ locs b 0 (fun j y hy => by obtain ⟨u, hu, hra⟩ := hcell j y hy; exact ⟨u, by simp [World.cell?, hheap, hu], hra⟩)
    refine wp_value (v := vc) (w' := w) ?_ (Rep.mkput R RTm H (Later.refl _ _) (fun _ _ h => h) o.dst v vc hr)
    rw [hexec, h3]
    simp only [Nat.zero_mul, Nat.add_zero, Nat.zero_add] at hrun ⊢
    simp [Instr.loadAt, Instr.sureAddr, hrun]
   ·exact he.elim
  ·rename_i sz es ho
   obtain ⟨cs, hcs, he⟩ := exC_out he
   obtain ⟨v, hk, hv⟩ := loadK_ok he
   refine ⟨v, [], [q], hk, fun ext w0 own0 t' h' a w Q hlen hag hrd _ R => ?_⟩
   obtain ⟨locs, H, RTm⟩ := R.repT
   have hq := (hrd q (by simp)).trans (getO_some ho (by simp))
   obtain ⟨l, hl, hs, hln, hlay⟩ := H.get hq (by simp) (by simp)
   have hp := ev_rep RTm x
   rw [hag x hmem, hx] at hp
   obtain ⟨l', d, h1, h2, h3⟩ := hp
   rw [hl] at h1; cases h1
   rcases hlay with hlay | ⟨b, off, cc, ty', hla, hheap, het, hsz, hcap, hcell⟩
   ·rw [hlay.1] at hcs; simp at hcs
   ·rw [hla] at h2; cases h2
    obtain ⟨hcl, hcv⟩ := hcell e cs hcs
    obtain ⟨vc, hrun, hr⟩ := hv w _ locs b (off + e * sz) (fun j y hy => by
     obtain ⟨z, hz, rfl⟩ := map_fz hy
     obtain ⟨u, hu, hra⟩ := hcv j z hz; exact ⟨u, by simp [World.cell?, hheap, hu], hra⟩)
    refine wp_value (v := vc) (w' := w) ?_ (Rep.mkput R RTm H (Later.refl _ _) (fun _ _ h => h) o.dst v vc hr)
    rw [hexec, h3, hs]
    simp [Instr.loadAt, Instr.sureAddr, hrun]
  ·rename_i sz es ho
   obtain ⟨cs, hcs, he⟩ : ∃ cs, es[e]? = some cs ∧ loadK P ty c (cs.map .fz) fun v => K v [] [q] := by
    split at he
    ·split at he
     ·exact ⟨_, rfl, he⟩
     ·exact he.elim
    ·exact exC_out he
   obtain ⟨v, hk, hv⟩ := loadK_ok he
   refine ⟨v, [], [q], hk, fun ext w0 own0 t' h' a w Q hlen hag hrd _ R => ?_⟩
   obtain ⟨locs, H, RTm⟩ := R.repT
   have hq : h'[q]? = some (.z sz es) := by rw [hrd q (by simp)]; exact getO_some ho (by simp)
   obtain ⟨l, hl, hs, hln, hlay⟩ := H.get hq (by simp) (by simp)
   have hp := ev_rep RTm x
   rw [hag x hmem, hx] at hp
   obtain ⟨l', d, h1, h2, h3⟩ := hp
   rw [hl] at h1; cases h1
   rcases hlay with hlay | ⟨b, off, hla, hcell⟩
   ·rw [hlay] at hcs; simp at hcs
   ·rw [hla] at h2; cases h2
    obtain ⟨hcl, hcv⟩ := hcell e cs hcs
    obtain ⟨vc, hrun, hr⟩ := hv w _ locs b (off + e * sz) (fun j y hy => by
     obtain ⟨z, hz, rfl⟩ := map_fz hy
     obtain ⟨hn, u, hu, hra⟩ := hcv j z hz; exact ⟨u, hu, hra⟩)
    refine wp_value (v := vc) (w' := w) ?_ (Rep.mkput R RTm H (Later.refl _ _) (fun _ _ h => h) o.dst v vc hr)
    rw [hexec, h3, hs]
    simp [Instr.loadAt, Instr.sureAddr, hrun]
  ·exact he.elim
 ·rename_i cs hx
  obtain ⟨v, hk, hv⟩ := loadK_ok he
  refine ⟨v, [], [], hk, fun ext w0 own0 t' h' a w Q hlen hag hrd _ R => ?_⟩
  obtain ⟨locs, H, RTm⟩ := R.repT
  have hp := ev_rep RTm x
  rw [hag x hmem, hx] at hp
  generalize hq : a.eval x = q at hp
  cases hp with
  | fp cs b off cvf hb hc hr0 =>
   obtain ⟨vc, hrun, hr⟩ := hv w _ locs b off (fun j y hy => by
    obtain ⟨z, hz, rfl⟩ := map_fz hy
    exact ⟨_, hc j z hz, hr0 j z hz⟩)
   refine wp_value (v := vc) (w' := w) ?_ (Rep.mkput R RTm H (Later.refl _ _) (fun _ _ h => h) o.dst v vc hr)
   rw [hexec, hq]
   simp only [Nat.add_zero] at hrun
   simp [Instr.loadAt, Instr.sureAddr, hrun]
 ·exact he.elim
def overF (cs : List FV) (off : Nat) (v : List FV) : List FV := cs.take off ++ v ++ cs.drop (off + v.length)
def evStore (P : Program) (ty : TypeId) (p v : TV) (h : List Ob) (K : OpK) : Prop :=
 match p, cellsT v with
 | .one (.ptr o e c ety), some vs0 =>
  match getO h o with
  | .g gt cs => if e = 0 ∧ P.underlying ty ≠ none ∧ vs0.length = P.cellsOf ty ∧ c + vs0.length ≤ cs.length ∧ vs0.all AV.sure = true then K .und [(o, .g gt (over cs c (fixN (kinds P ty) vs0)))] [o] else False
  | .f et sz es =>
   match frzL vs0 with
   | some fs => if P.underlying ty ≠ none ∧ vs0.length = P.cellsOf ty then
     (if c = 0 ∧ fs.length = sz then e < es.length ∧ K .und [(o, .f et sz (es.set e fs))] [o]
      else exC (kinds P ety) fun cs => es[e]? = some cs ∧ if c + fs.length ≤ cs.length then K .und [(o, .f et sz (es.set e (overF cs c fs)))] [o] else False)
    else False
   | none => False
  | _ => False
 | _, _ => False
def evAlloc (P : Program) (ty : TypeId) (id : Nat) (K : OpK) : Prop :=
 match zeroA P ty with
 | some cs => if (P.underlying ty).isSome then K (.one (.ptr id 0 0 0)) [(id, .g ty cs)] [] else False
 | none => False
def evBox (P : Program) (ty : TypeId) (x : TV) (id : Nat) (K : OpK) : Prop :=
 match cellsT x with
 | some cs => K (.one (.ptr id 0 0 0)) [(id, .g ty (fixN (kinds P ty) cs))] []
 | none => False
theorem alloc_size (w : World) (o : Obj) : (w.alloc o).heap.size = w.heap.size + 1 := World.size_alloc ..
theorem alloc_old (w : World) (o : Obj) (k : Nat) (h : k < w.heap.size) : (w.alloc o).heap[k]? = w.heap[k]? := by
 show (w.heap.push o)[k]? = _
 rw [Array.getElem?_push, if_neg (by omega)]
theorem alloc_new (w : World) (o : Obj) : (w.alloc o).heap[w.heap.size]? = some o := by
 show (w.heap.push o)[w.heap.size]? = _
 simp
theorem fix_reps {P : Program} {ty : TypeId} {w : World} {B : Nat → Prop} {locs : Locs} {cs : List AV} {arr : Array Value} (h : Reps w B locs cs arr) : Reps w B locs (fixN (kinds P ty) cs) arr := by
 obtain ⟨h1, h2⟩ := fixN_ok (w := w) (B := B) (locs := locs) (kinds P ty) cs
 exact ⟨by rw [h.1, h1], fun j x hx => by
  obtain ⟨y, hy, hxy⟩ := h2 j x hx
  obtain ⟨u, hu, hr⟩ := h.2 j y hy
  exact ⟨u, hu, hxy u hr⟩⟩
theorem newvar_ok {P : Program} {ext : Nat → Prop} {w0 : World} {own0 : Own0} {t : List TV} {h : List Ob} {a : Act} {w : World} (R : Rep P ext w0 own0 ⟨t, h⟩ a w) {id : Nat} (hf : freshO h id) {cs : List AV} {arr : Array Value} {ty : TypeId}
  (hr : ∀ locs, RepH P ext w0 own0 locs h w → RepT w (Bar ext locs h) locs t a → Reps w (Bar ext locs h) locs cs arr) (dst : Option Tmp) :
  Rep P ext w0 own0 ⟨putT t dst (.one (.ptr id 0 0 0)), putO h id (.g ty cs)⟩ (a.put dst (.pointer (some ⟨w.heap.size, 0, none⟩))) (w.alloc (.cells arr ty)) := by
 obtain ⟨locs, H, RTm⟩ := R.repT
 have hrr := hr locs H RTm
 obtain ⟨hn, _⟩ := fresh_none H hf
 obtain ⟨H', lt⟩ := H.new (w' := w.alloc (.cells arr ty)) hf (fun b hb => alloc_old w _ b hb) (by rw [alloc_size]; omega) rfl rfl rfl ⟨some ⟨w.heap.size, 0, none⟩, 1, cs.length, 1⟩ (.g ty cs)
  (fun _ d hd => by cases hd; exact Nat.le_refl _) (fun lt => ⟨⟨rfl, rfl⟩, w.heap.size, arr, rfl, alloc_new w _, hrr.1, fun j x hx => by
   obtain ⟨u, hu, hra⟩ := hrr.2 j x hx
   exact ⟨u, hu, hra.later lt (addL_mono hn)⟩⟩)
 exact Rep.mkput R RTm H' lt (addL_mono hn) dst _ _ ⟨_, _, addL_at, rfl, by simp⟩
theorem box_ok {P : Program} {o : Oper} {ty : TypeId} {x : Operand} (hop : o.op = .box ty x) {t : List TV} {h : List Ob} {id : Nat} {K : OpK} (he : evBox P ty (ev t x) id K) :
  ∃ v wr rd, K v wr rd ∧ OpOK P o t h id v wr rd := by
 have hmem : x ∈ o.op.operands := by rw [hop]; simp [Op.operands]
 unfold evBox at he
 split at he
 ·rename_i cs hcs
  refine ⟨_, _, _, he, fun ext w0 own0 t' h' a w Q hlen hag hrd hf R => ?_⟩
  refine wp_value (v := .pointer (some ⟨w.heap.size, 0, none⟩)) (w' := w.alloc (.cells (a.eval x).cells ty)) ?_ ?_
  ·unfold execOp; rw [hop]; simp [Instr.box, newVar, newRow]
  ·exact newvar_ok R hf (fun locs H RTm => fix_reps (by
    have hp := ev_rep RTm x
    rw [hag x hmem] at hp
    exact cellsT_ok hcs hp)) o.dst
 ·exact he.elim
theorem alloc_ok {P : Program} {o : Oper} {ty : TypeId} (hop : o.op = .alloc ty) {t : List TV} {h : List Ob} {id : Nat} {K : OpK} (he : evAlloc P ty id K) :
  ∃ v wr rd, K v wr rd ∧ OpOK P o t h id v wr rd := by
 unfold evAlloc at he
 split at he
 ·rename_i cs hcs
  split at he
  ·obtain ⟨i, z, hi, hz, hzr⟩ := zeroA_ok hcs
   refine ⟨_, _, _, he, fun ext w0 own0 t' h' a w Q hlen hag hrd hf R => ?_⟩
   refine wp_value (v := .pointer (some ⟨w.heap.size, 0, none⟩)) (w' := w.alloc (.cells z.cells ty)) ?_ ?_
   ·unfold execOp; rw [hop]; simp [Instr.alloc, zeroValue, typeInfo, hi, hz, newVar, newRow]
   ·exact newvar_ok R hf (fun locs H RTm => hzr _ _ _) o.dst
  ·exact he.elim
 ·exact he.elim
theorem setRow_old (w : World) (g k : Nat) (cs : Array Value) (h : k ≠ g) : (w.setRow g cs).heap[k]? = w.heap[k]? := setRow_other w g k cs h
theorem splice_get (cur : Array Value) (o : Nat) (vs : List Value) (hle : o + vs.length ≤ cur.size) (j : Nat) :
  (cur.toList.take o ++ vs ++ cur.toList.drop (o + vs.length)).toArray[j]? = if o ≤ j ∧ j < o + vs.length then vs[j - o]? else cur[j]? := by
 simp only [List.append_assoc, List.getElem?_toArray]
 by_cases h1 : j < o
 ·rw [List.getElem?_append_left (by simp; omega), List.getElem?_take_of_lt h1, if_neg (by omega)]
  simp
 ·rw [List.getElem?_append_right (by simp; omega)]
  simp only [List.length_take, Array.length_toList, Nat.min_eq_left (show o ≤ cur.size by omega)]
  by_cases h2 : j < o + vs.length
  ·rw [List.getElem?_append_left (by omega), if_pos (by omega)]
  ·rw [List.getElem?_append_right (by omega), List.getElem?_drop, if_neg (by omega), show o + vs.length + (j - o - vs.length) = j by omega]
   simp
theorem RF.one {w : World} {B : Nat → Prop} {x : FV} {v : Value} (h : RF w B x v) : v.oneCell' = true := by cases h <;> rfl
theorem store_ok {P : Program} {o : Oper} {ty : TypeId} {p x : Operand} (hop : o.op = .store ty p x) {t : List TV} {h : List Ob} {id : Nat} {K : OpK} (he : evStore P ty (ev t p) (ev t x) h K) :
  ∃ v wr rd, K v wr rd ∧ OpOK P o t h id v wr rd := by
 have hmp : p ∈ o.op.operands := by rw [hop]; simp [Op.operands]
 have hmx : x ∈ o.op.operands := by rw [hop]; simp [Op.operands]
 have hexec : ∀ a : Act, execOp a.eval o = (do Instr.storeAt ty (a.eval p) (a.eval x); pure .skip) := fun a => by unfold execOp; rw [hop]
 unfold evStore at he
 split at he
 ·rename_i q e c ety vs0 hp hcs
  split at he
  ·rename_i cs hg
   split at he
   ·rename_i hc
    obtain ⟨he0, hty, hvl, hle, hsure⟩ := hc
    subst he0
    obtain ⟨d, hd⟩ := Option.ne_none_iff_exists'.1 hty
    refine ⟨_, _, _, he, fun ext w0 own0 t' h' a w Q hlen hag hrd _ R => ?_⟩
    obtain ⟨locs, H, RTm⟩ := R.repT
    have hq := (hrd q (by simp)).trans (getO_some hg (by simp))
    obtain ⟨l, hl, hs, b, cc, hla, hheap, hsz, hcell⟩ := H.get hq (by simp) (by simp)
    have hpp := ev_rep RTm p
    rw [hag p hmp, hp] at hpp
    obtain ⟨l', dd, h1, h2, h3⟩ := hpp
    rw [hl] at h1; cases h1
    rw [hla] at h2; cases h2
    have hxx := ev_rep RTm x
    rw [hag x hmx] at hxx
    have hcv := cellsT_ok hcs hxx
    have hone : ∀ u ∈ (a.eval x).cells.toList, u.oneCell' = true := by
     intro u hu
     obtain ⟨j, hj, hju⟩ := List.getElem_of_mem hu
     have hj' : j < vs0.length := by rw [← hcv.1]; simpa using hj
     obtain ⟨u', hu', hr⟩ := hcv.2 j vs0[j] (List.getElem?_eq_getElem _)
     have e1 : u' = u := by
      have e2 : (a.eval x).cells[j]? = some u := by rw [← hju]; simp
      rw [e2] at hu'; cases hu'; rfl
     subst e1
     exact (RA.cells (List.all_eq_true.1 hsure _ (List.getElem_mem _)) hr).2
    have hrun := run_storeCells_at P b c _ (a.eval x).cells.toList 0 cc w hheap (by simp only [Array.length_toList, hcv.1]; omega) hone
    simp only [Nat.add_zero] at hrun
    have hcl : (a.eval x).cells.toList.length = vs0.length := by simpa using hcv.1
    have hfr := fix_reps (P := P) (ty := ty) hcv
    obtain ⟨H', lt⟩ := H.upd (w' := w.setRow b (cc.toList.take c ++ (a.eval x).cells.toList ++ cc.toList.drop (c + (a.eval x).cells.toList.length)).toArray) (ob := .g _ (over cs c (fixN (kinds P ty) vs0))) hq rfl hl hla
     (fun k hk hne => setRow_old w b k _ hne) (by simp) rfl rfl rfl (fun lt => by
      have hfl := (fixN_ok (w := w) (B := Bar ext locs h') (locs := locs) (kinds P ty) vs0).1
      have hol : (over cs c (fixN (kinds P ty) vs0)).length = cs.length := by simp only [over, List.length_append, List.length_take, List.length_drop]; omega
      refine ⟨⟨by rw [hs.1, hol], hs.2⟩, b, _, hla, setRow_heap w b cc _ _ _ hheap, by rw [hol, ← hsz]; simp only [List.size_toArray, List.length_append, List.length_take, List.length_drop, Array.length_toList]; rw [hcv.1]; omega, fun j y hy => ?_⟩
      rw [splice_get cc c _ (by rw [hcl]; omega)]
      have hjl : j < cs.length := by
       rcases Nat.lt_or_ge j cs.length with h' | h'
       ·exact h'
       ·rw [List.getElem?_eq_none (by omega)] at hy; cases hy
      simp only [over, List.append_assoc] at hy
      by_cases ha : j < c
      ·rw [List.getElem?_append_left (by simp; omega), List.getElem?_take_of_lt ha] at hy
       rw [if_neg (by omega)]
       obtain ⟨u, hu, hr⟩ := hcell j y hy
       exact ⟨u, hu, hr.later lt (fun _ _ h => h)⟩
      ·rw [List.getElem?_append_right (by simp; omega)] at hy
       simp only [List.length_take, Nat.min_eq_left (show c ≤ cs.length by omega)] at hy
       by_cases hb : j < c + vs0.length
       ·rw [List.getElem?_append_left (by omega)] at hy
        rw [if_pos (by omega)]
        obtain ⟨u, hu, hr⟩ := hfr.2 _ y hy
        exact ⟨u, by simpa using hu, hr.later lt (fun _ _ h => h)⟩
       ·rw [List.getElem?_append_right (by omega), List.getElem?_drop] at hy
        rw [if_neg (by omega)]
        obtain ⟨u, hu, hr⟩ := hcell j y (by rw [← hy]; congr 1; omega)
        exact ⟨u, hu, hr.later lt (fun _ _ h => h)⟩)
    have hput : ∀ gt, putOs h' [(q, .g gt (over cs c (fixN (kinds P ty) vs0)))] = h'.set q (.g gt (over cs c (fixN (kinds P ty) vs0))) := by
     have hlt : q < h'.length := by
      rcases Nat.lt_or_ge q h'.length with h' | h'
      ·exact h'
      ·rw [List.getElem?_eq_none h'] at hq; cases hq
     simp [putOs, putO, hlt]
    refine wp_skip' (w' := w.setRow b (cc.toList.take c ++ (a.eval x).cells.toList ++ cc.toList.drop (c + (a.eval x).cells.toList.length)).toArray) ?_ (by rw [hput]; exact Rep.mkput R RTm H' lt (fun _ _ h => h) o.dst .und undef trivial)
    rw [hexec, h3]
    simp only [Nat.zero_mul, Nat.add_zero, Nat.zero_add]
    simp only [Instr.storeAt, Instr.sureAddr, Sem.run_bind, Sem.run_pure, Result.andThen, storeVar, run_sizeOf hd, hcv.1, hvl, ne_eq, not_true_eq_false, if_false, hrun]
   ·exact he.elim
  ·rename_i et sz es hg
   split at he
   ·rename_i fs hfs
    split at he
    ·rename_i hc
     obtain ⟨hty, hvl⟩ := hc
     obtain ⟨d, hd⟩ := Option.ne_none_iff_exists'.1 hty
     obtain ⟨ne, hk, hne⟩ : ∃ ne : List FV, K .und [(q, .f et sz (es.set e ne))] [q] ∧ ((c = 0 ∧ fs.length = sz ∧ ne = fs ∧ e < es.length) ∨ ∃ cs : List FV, es[e]? = some cs ∧ c + fs.length ≤ cs.length ∧ ne = overF cs c fs) := by
      split at he
      ·exact ⟨fs, he.2, .inl ⟨‹c = 0 ∧ fs.length = sz›.1, ‹c = 0 ∧ fs.length = sz›.2, rfl, he.1⟩⟩
      ·obtain ⟨cs, hcs', he⟩ := exC_out he
       split at he
       ·exact ⟨_, he, .inr ⟨cs, hcs', ‹_›, rfl⟩⟩
       ·exact he.elim
     refine ⟨_, _, _, hk, fun ext w0 own0 t' h' a w Q hlen hag hrd _ R => ?_⟩
     obtain ⟨locs, H, RTm⟩ := R.repT
     have hq := (hrd q (by simp)).trans (getO_some hg (by simp))
     obtain ⟨l, hl, hs, hln, hlay⟩ := H.get hq (by simp) (by simp)
     have hpp := ev_rep RTm p
     rw [hag p hmp, hp] at hpp
     obtain ⟨l', dd, h1, h2, h3⟩ := hpp
     rw [hl] at h1; cases h1
     have helt : e < es.length := by
      rcases hne with ⟨_, _, _, h4⟩ | ⟨cs, h4, _⟩
      ·exact h4
      ·rcases Nat.lt_or_ge e es.length with h' | h'
       ·exact h'
       ·rw [List.getElem?_eq_none h'] at h4; cases h4
     rcases hlay with hlay | ⟨b, off, cc, ty', hla, hheap, het, hsz, hcap, hcell⟩
     ·rw [hlay.1] at helt; simp at helt
     ·rw [hla] at h2; cases h2
      obtain ⟨hel, hev⟩ := hcell e es[e] (List.getElem?_eq_getElem _)
      have hcf : c + fs.length ≤ sz := by
       rcases hne with ⟨h4, h5, _⟩ | ⟨cs, h4, h5, _⟩
       ·omega
       ·rw [List.getElem?_eq_getElem helt] at h4; cases h4; omega
      have hnel : ne.length = sz := by
       rcases hne with ⟨h4, h5, rfl, _⟩ | ⟨cs, h4, h5, rfl⟩
       ·exact h5
       ·rw [List.getElem?_eq_getElem helt] at h4; cases h4
        simp only [overF, List.length_append, List.length_take, List.length_drop]; omega
      have hneg : ∀ j x, ne[j]? = some x → (c ≤ j ∧ j < c + fs.length ∧ fs[j - c]? = some x) ∨ (¬ (c ≤ j ∧ j < c + fs.length) ∧ es[e][j]? = some x) := by
       intro j x hx
       have hjl : j < sz := by
        rcases Nat.lt_or_ge j sz with h' | h'
        ·exact h'
        ·rw [List.getElem?_eq_none (by omega)] at hx; cases hx
       rcases hne with ⟨rfl, h5, rfl, _⟩ | ⟨cs, h4, h5, rfl⟩
       ·exact .inl ⟨by omega, by omega, hx⟩
       ·rw [List.getElem?_eq_getElem helt] at h4; cases h4
        simp only [overF, List.append_assoc] at hx
        by_cases ha : j < c
        ·rw [List.getElem?_append_left (by simp; omega), List.getElem?_take_of_lt ha] at hx
         exact .inr ⟨by omega, hx⟩
        ·rw [List.getElem?_append_right (by simp; omega)] at hx
         simp only [List.length_take, Nat.min_eq_left (show c ≤ es[e].length by omega)] at hx
         by_cases hb : j < c + fs.length
         ·rw [List.getElem?_append_left (by omega)] at hx
          exact .inl ⟨by omega, hb, hx⟩
         ·rw [List.getElem?_append_right (by omega), List.getElem?_drop] at hx
          exact .inr ⟨by omega, by rw [← hx]; congr 1; omega⟩
      have hxx := ev_rep RTm x
      rw [hag x hmx] at hxx
      have hcv := cellsT_ok hcs hxx
      obtain ⟨hfl, hfv⟩ := frzL_ok (w := w) (B := Bar ext locs h') (locs := locs) hfs
      have hfr := hfv (a.eval x).cells.toList (fun j y hy => by obtain ⟨u, hu, hr⟩ := hcv.2 j y hy; exact ⟨u, by simpa using hu, hr⟩)
      have hcl : (a.eval x).cells.toList.length = vs0.length := by simpa using hcv.1
      have hone : ∀ u ∈ (a.eval x).cells.toList, u.oneCell' = true := by
       intro u hu
       obtain ⟨j, hj, hju⟩ := List.getElem_of_mem hu
       have hj' : j < fs.length := by omega
       obtain ⟨u', hu', hr⟩ := hfr j fs[j] (List.getElem?_eq_getElem _)
       rw [List.getElem?_eq_getElem hj, hju] at hu'
       cases hu'
       exact hr.one
      have hbound : off + e * sz + sz ≤ cc.size := by
       have h4 : (e + 1) * sz ≤ l.cap * sz := Nat.mul_le_mul_right _ (by omega)
       rw [Nat.add_mul, Nat.one_mul] at h4
       omega
      have hrun := run_storeCells_at P b (off + e * sz + c) ty' (a.eval x).cells.toList 0 cc w hheap (by omega) hone
      simp only [Nat.add_zero] at hrun
      obtain ⟨H', lt⟩ := H.upd (w' := w.setRow b (cc.toList.take (off + e * sz + c) ++ (a.eval x).cells.toList ++ cc.toList.drop (off + e * sz + c + (a.eval x).cells.toList.length)).toArray) (ob := .f et sz (es.set e ne)) hq rfl hl hla
       (fun k hk hne => setRow_old w b k _ hne) (by simp) rfl rfl rfl (fun lt => by
        refine ⟨hs, by rw [hln]; simp, .inr ⟨b, off, _, ty', hla, setRow_heap w b cc _ ty' _ hheap, het, ?_, by simpa using hcap, fun i el hi => ?_⟩⟩
        ·simp only [List.size_toArray, List.length_append, List.length_take, List.length_drop, Array.length_toList]
         omega
        ·rw [List.getElem?_set] at hi
         by_cases hie : e = i
         ·subst hie
          rw [if_pos rfl, if_pos helt] at hi
          cases hi
          refine ⟨hnel, fun j y hy => ?_⟩
          rw [splice_get cc _ _ (by omega)]
          rcases hneg j y hy with ⟨h4, h5, h6⟩ | ⟨h4, h5⟩
          ·rw [if_pos (by omega)]
           obtain ⟨u, hu, hr⟩ := hfr _ y h6
           exact ⟨u, by rw [← hu]; congr 1; omega, hr.later lt⟩
          ·rw [if_neg (by omega)]
           obtain ⟨u, hu, hr⟩ := hev j y h5
           exact ⟨u, hu, hr.later lt⟩
         ·rw [if_neg hie] at hi
          obtain ⟨h4, h5⟩ := hcell i el hi
          refine ⟨h4, fun j y hy => ?_⟩
          have hjl : j < sz := by
           rcases Nat.lt_or_ge j sz with h' | h'
           ·exact h'
           ·rw [List.getElem?_eq_none (by omega)] at hy; cases hy
          rw [splice_get cc _ _ (by omega)]
          have hout : ¬ (off + e * sz + c ≤ off + i * sz + j ∧ off + i * sz + j < off + e * sz + c + (a.eval x).cells.toList.length) := by
           rcases Nat.lt_or_gt_of_ne hie with h6 | h6
           ·have h7 : (e + 1) * sz ≤ i * sz := Nat.mul_le_mul_right _ h6
            rw [Nat.add_mul, Nat.one_mul] at h7
            omega
           ·have h7 : (i + 1) * sz ≤ e * sz := Nat.mul_le_mul_right _ h6
            rw [Nat.add_mul, Nat.one_mul] at h7
            omega
          rw [if_neg hout]
          obtain ⟨u, hu, hr⟩ := h5 j y hy
          exact ⟨u, hu, hr.later lt⟩)
      have hput : putOs h' [(q, .f et sz (es.set e ne))] = h'.set q (.f et sz (es.set e ne)) := by
       have hlt : q < h'.length := by
        rcases Nat.lt_or_ge q h'.length with h' | h'
        ·exact h'
        ·rw [List.getElem?_eq_none h'] at hq; cases hq
       simp [putOs, putO, hlt]
      refine wp_skip' (w' := w.setRow b (cc.toList.take (off + e * sz + c) ++ (a.eval x).cells.toList ++ cc.toList.drop (off + e * sz + c + (a.eval x).cells.toList.length)).toArray) ?_ (by rw [hput]; exact Rep.mkput R RTm H' lt (fun _ _ h => h) o.dst .und undef trivial)
      rw [hexec, h3, hs]
      simp only [Instr.storeAt, Instr.sureAddr, Sem.run_bind, Sem.run_pure, Result.andThen, storeVar, run_sizeOf hd, hcv.1, hvl, ne_eq, not_true_eq_false, if_false, hrun]
    ·exact he.elim
   ·exact he.elim
  ·exact he.elim
 ·exact he.elim
end
section
def rowOf (h : List Ob) : TV → Option (Nat × List (List FV) × List Nat)
 | .one (.fz (.sl sz es)) => some (sz, es, [])
 | .one (.nsl sz) => some (sz, [], [])
 | .one (.ofl sz o) =>
  match getO h o with
  | .f et sz' es => if sz' = sz then some (sz, es, [o]) else none
  | .z sz' es => if sz' = sz then some (sz, es, [o]) else none
  | _ => none
 | _ => none
theorem add_eq (d : Addr) (hd : d.spot = none) (n : Nat) : d.add n = ⟨d.block, d.off + n, none⟩ := by
 obtain ⟨b, o, s⟩ := d
 simp only at hd
 subst hd
 exact add_mk b o n
structure RowAt (w : World) (B : Nat → Prop) (sz : Nat) (es : List (List FV)) (v : Value) (a : Option Addr) (c : Nat) (news : List Value) : Prop where
 val : v = .slice a es.length c
 cap : es.length ≤ c
 len : news.length = es.length * sz
 cell : ∀ (k : Nat) (u : Value), news[k]? = some u → ∃ d, a = some d ∧ d.spot = none ∧ w.cell? ⟨d.block, d.off + k, none⟩ = some u
 elem : ∀ (i : Nat) (e : List FV), es[i]? = some e → e.length = sz ∧ ∀ (j : Nat) (x : FV), e[j]? = some x → ∃ u, news[i * sz + j]? = some u ∧ RF w B x u
theorem RowAt.one {w : World} {B : Nat → Prop} {sz : Nat} {es : List (List FV)} {v : Value} {a : Option Addr} {c : Nat} {news : List Value} (h : RowAt w B sz es v a c news) : ∀ u ∈ news, u.oneCell' = true := by
 intro u hu
 obtain ⟨k, hk, hku⟩ := List.getElem_of_mem hu
 have h1 := h.len
 have hsz : 0 < sz := by
  rcases Nat.eq_zero_or_pos sz with h' | h'
  ·rw [h', Nat.mul_zero] at h1; omega
  ·exact h'
 have hi : k / sz < es.length := by rw [Nat.div_lt_iff_lt_mul hsz]; omega
 obtain ⟨h2, h3⟩ := h.elem (k / sz) es[k / sz] (List.getElem?_eq_getElem _)
 have hj : k % sz < es[k / sz].length := by rw [h2]; exact Nat.mod_lt _ hsz
 obtain ⟨u', hu', hr⟩ := h3 (k % sz) es[k / sz][k % sz] (List.getElem?_eq_getElem _)
 have hd := Nat.div_add_mod k sz
 rw [Nat.mul_comm, hd, List.getElem?_eq_getElem hk, hku] at hu'
 cases hu'
 exact hr.one
theorem RowAt.mk' {w : World} {B : Nat → Prop} {sz : Nat} {es : List (List FV)} {b off c : Nat} (hc : es.length ≤ c)
  (h : ∀ (i : Nat) (e : List FV), es[i]? = some e → e.length = sz ∧ ∀ (j : Nat) (x : FV), e[j]? = some x → ∃ u, w.cell? ⟨b, off + i * sz + j, none⟩ = some u ∧ RF w B x u) :
  ∃ news, RowAt w B sz es (.slice (some ⟨b, off, none⟩) es.length c) (some ⟨b, off, none⟩) c news := by
 refine ⟨(List.range (es.length * sz)).map fun k => (w.cell? ⟨b, off + k, none⟩).getD undef, rfl, hc, by simp, fun k u hu => ?_, fun i e he => ?_⟩
 ·simp only [List.getElem?_map, Option.map_eq_some_iff] at hu
  obtain ⟨k', hk', hu⟩ := hu
  have hk2 : k < es.length * sz ∧ k' = k := by
   rcases Nat.lt_or_ge k (es.length * sz) with h' | h'
   ·rw [List.getElem?_range h'] at hk'; cases hk'; exact ⟨h', rfl⟩
   ·rw [List.getElem?_eq_none (by simpa using h')] at hk'; cases hk'
  obtain ⟨hk, rfl⟩ := hk2
  have hsz : 0 < sz := by
   rcases Nat.eq_zero_or_pos sz with h' | h'
   ·rw [h', Nat.mul_zero] at hk; omega
   ·exact h'
  have hi : k' / sz < es.length := by rw [Nat.div_lt_iff_lt_mul hsz]; omega
  obtain ⟨h2, h3⟩ := h (k' / sz) es[k' / sz] (List.getElem?_eq_getElem _)
  obtain ⟨u', hu', hr⟩ := h3 (k' % sz) (es[k' / sz][k' % sz]'(by rw [h2]; exact Nat.mod_lt _ hsz)) (List.getElem?_eq_getElem _)
  have hd := Nat.div_add_mod k' sz
  rw [Nat.add_assoc, Nat.mul_comm (k' / sz), hd] at hu'
  rw [hu'] at hu
  exact ⟨_, rfl, rfl, by rw [hu', ← hu]; rfl⟩
 ·obtain ⟨h2, h3⟩ := h i e he
  refine ⟨h2, fun j x hx => ?_⟩
  obtain ⟨u, hu, hr⟩ := h3 j x hx
  have hj : j < sz := by
   rcases Nat.lt_or_ge j e.length with h' | h'
   ·omega
   ·rw [List.getElem?_eq_none h'] at hx; cases hx
  have hi : i < es.length := by
   rcases Nat.lt_or_ge i es.length with h' | h'
   ·exact h'
   ·rw [List.getElem?_eq_none h'] at he; cases he
  have hlt : i * sz + j < es.length * sz := by
   have h7 : (i + 1) * sz ≤ es.length * sz := Nat.mul_le_mul_right _ hi
   rw [Nat.add_mul, Nat.one_mul] at h7
   omega
  refine ⟨u, ?_, hr⟩
  rw [List.getElem?_map, List.getElem?_range hlt, Option.map_some, ← Nat.add_assoc, hu]
  rfl
theorem RowAt.nil {w : World} {B : Nat → Prop} (sz : Nat) (a : Option Addr) (c : Nat) : RowAt w B sz [] (.slice a 0 c) a c [] :=
 ⟨rfl, Nat.zero_le _, by simp, by simp, by simp⟩
section
variable {P : Program} {ext : Nat → Prop} {w0 : World} {own0 : Own0} {locs : Locs} {h : List Ob} {w w' : World}
theorem sl_row {B : Nat → Prop} {sz : Nat} {es : List (List FV)} {v : Value} (hv : RF w B (.sl sz es) v) : ∃ a c news, RowAt w B sz es v a c news := by
 cases hv with
 | slN sz a c => exact ⟨a, c, [], RowAt.nil sz a c⟩
 | sl es b off c sz cv hb hc hsz hcell hr =>
  obtain ⟨news, hn⟩ := RowAt.mk' (w := w) (B := B) (b := b) (off := off) hc (fun i e he => ⟨hsz i e he, fun j x hx => ⟨_, hcell i e j x he hx, hr i e j x he hx⟩⟩)
  exact ⟨_, c, news, hn⟩
theorem f_row {B : Nat → Prop} {et sz o : Nat} {es : List (List FV)} {v : Value} {l : Loc} {S : Nat → Prop} (hl : locs o = some l) (hob : RepOb P w B locs S l (.f et sz es)) (hv : RA w B locs (.ofl sz o) v) :
  ∃ a c news, RowAt w B sz es v a c news ∧ c ≤ l.cap ∧ (c = 0 ∨ a = l.a) := by
 obtain ⟨l', a, c, h1, h2, rfl, h3, h4, h5⟩ := hv
 rw [hl] at h1; cases h1
 obtain ⟨hs, hln, hlay⟩ := hob
 rw [hln] at h3 ⊢
 rcases hlay with ⟨rfl, h6, h7⟩ | ⟨b, off, cc, ty', hla, hheap, het, hsz, hcap, hcell⟩
 ·exact ⟨a, c, [], RowAt.nil sz a c, h4, h5⟩
 ·rcases h5 with h5 | h5
  ·subst h5
   have : es = [] := List.eq_nil_of_length_eq_zero (by omega)
   subst this
   exact ⟨a, 0, [], RowAt.nil sz a 0, h4, .inl rfl⟩
  ·subst h5
   rw [hla]
   obtain ⟨news, hn⟩ := RowAt.mk' (w := w) (B := B) (b := b) (off := off) (c := c) h3 (fun i e he => by
    obtain ⟨h8, h9⟩ := hcell i e he
    exact ⟨h8, fun j x hx => by obtain ⟨u, hu, hr⟩ := h9 j x hx; exact ⟨u, by simp [World.cell?, hheap, hu], hr⟩⟩)
   exact ⟨_, c, news, hn, h4, .inr rfl⟩
theorem z_row {B : Nat → Prop} {sz o : Nat} {es : List (List FV)} {v : Value} {l : Loc} {S : Nat → Prop} (hl : locs o = some l) (hob : RepOb P w B locs S l (.z sz es)) (hv : RA w B locs (.ofl sz o) v) :
  RF w B (.sl sz es) v := by
 obtain ⟨l', a, c, h1, h2, rfl, h3, h4, h5⟩ := hv
 rw [hl] at h1; cases h1
 obtain ⟨hs, hln, hlay⟩ := hob
 rw [hln] at h3 ⊢
 rcases hlay with rfl | ⟨b, off, hla, hcell⟩
 ·exact .slN _ _ _
 ·rcases h5 with h5 | h5
  ·subst h5
   have : es = [] := List.eq_nil_of_length_eq_zero (by omega)
   subst this
   exact .slN _ _ _
  ·subst h5
   rw [hla]
   have hex : ∀ (i j : Nat), ∃ u : Value, ∀ (e : List FV) (x : FV), es[i]? = some e → e[j]? = some x → w.cell? ⟨b, off + i * sz + j, none⟩ = some u ∧ RF w B x u := by
    intro i j
    cases hi : es[i]? with
    | none => exact ⟨undef, fun e x h => by cases h⟩
    | some e =>
     cases hj : e[j]? with
     | none => exact ⟨undef, fun e' x h1 h2 => by cases h1; rw [hj] at h2; cases h2⟩
     | some x =>
      obtain ⟨_, u, hu, hr⟩ := (hcell i e hi).2 j x hj
      exact ⟨u, fun e' x' h1 h2 => by cases h1; rw [hj] at h2; cases h2; exact ⟨hu, hr⟩⟩
   obtain ⟨cv, hcv⟩ := Classical.axiomOfChoice (fun i => Classical.axiomOfChoice (hex i))
   exact RF.sl es b off c sz cv (fun i e j x h1 h2 => ((hcell i e h1).2 j x h2).1) h3 (fun i e h1 => (hcell i e h1).1) (fun i e j x h1 h2 => (hcv i j e x h1 h2).1) (fun i e j x h1 h2 => (hcv i j e x h1 h2).2)
theorem rowOf_ok {h0 : List Ob} {x : TV} {sz : Nat} {es : List (List FV)} {rd : List Nat} (hx : rowOf h0 x = some (sz, es, rd)) (hrd : ∀ i ∈ rd, h[i]? = h0[i]?) (H : RepH P ext w0 own0 locs h w) {v : Value} (hv : RT w (Bar ext locs h) locs x v) :
  ∃ a c news, RowAt w (Bar ext locs h) sz es v a c news := by
 unfold rowOf at hx
 split at hx
 ·cases hx; exact sl_row hv
 ·cases hx; obtain ⟨a, rfl⟩ := hv; exact ⟨a, 0, [], RowAt.nil _ a 0⟩
 ·split at hx
  ·rename_i sz1 o _ et sz' es' hg
   split at hx
   ·rename_i he
    subst he
    cases hx
    have ho := (hrd o (by simp)).trans (getO_some hg (by simp))
    obtain ⟨l, hl, hob⟩ := H.get ho (by simp) (by simp)
    obtain ⟨a, c, news, hn, _⟩ := f_row hl hob hv
    exact ⟨a, c, news, hn⟩
   ·cases hx
  ·rename_i sz1 o _ sz' es' hg
   split at hx
   ·rename_i he
    subst he
    cases hx
    have ho : h[o]? = some (.z sz es) := by rw [hrd o (by simp)]; exact getO_some hg (by simp)
    obtain ⟨l, hl, hob⟩ := H.get ho (by simp) (by simp)
    exact sl_row (z_row hl hob hv)
   ·cases hx
  ·cases hx
 ·cases hx
end
def evLenO (P : Program) (ty : TypeId) (x : TV) (h : List Ob) (K : OpK) : Prop :=
 match P.underlying ty, rowOf h x with
 | some (.slice _), some (_, es, rd) => K (.one (.fz (.int .i64 (es.length : Int)))) [] rd
 | _, _ => False
theorem lenO_ok {P : Program} {o : Oper} {ty : TypeId} {x : Operand} (hop : o.op = .call { callee := .builtin .len, args := #[x], argTypes := #[ty] }) {t : List TV} {h : List Ob} {id : Nat} {K : OpK} (he : evLenO P ty (ev t x) h K) :
  ∃ v wr rd, K v wr rd ∧ OpOK P o t h id v wr rd := by
 have hmem : x ∈ o.op.operands := by rw [hop]; simp [Op.operands, Call.operands]
 unfold evLenO at he
 split at he
 ·rename_i e sz es rd ht hx
  refine ⟨_, _, _, he, fun ext w0 own0 t' h' a w Q hlen hag hrd _ R => ?_⟩
  obtain ⟨locs, H, RTm⟩ := R.repT
  have hp := ev_rep RTm x
  rw [hag x hmem] at hp
  obtain ⟨ad, c, news, hn⟩ := rowOf_ok hx hrd H hp
  refine wp_value (v := .int .i64 es.length) (w' := w) ?_ (Rep.mkput R RTm H (Later.refl _ _) (fun _ _ h => h) o.dst _ _ (RF.int _ _))
  unfold execOp; rw [hop]
  simp [resolve, invoke, builtin, Builtin.len_, run_underlying ht, hn.val, goInt]
 ·exact he.elim
def evIndexAddrO (P : Program) (ty : TypeId) (x i : TV) (h : List Ob) (K : OpK) : Prop :=
 match P.underlying ty, x, i with
 | some (.slice e), .one (.ofl sz o), .one (.fz (.int _ n)) =>
  if P.underlying e ≠ none ∧ P.cellsOf e = sz then
   match getO h o with
   | .f et sz' es => if sz' = sz then (0 ≤ n ∧ n < (es.length : Int)) ∧ K (.one (.ptr o n.toNat 0 e)) [] [o] else False
   | .z sz' es => if sz' = sz then (0 ≤ n ∧ n < (es.length : Int)) ∧ K (.one (.ptr o n.toNat 0 e)) [] [o] else False
   | _ => False
  else False
 | _, _, _ => False
theorem indexAddrO_ok {P : Program} {o : Oper} {ty : TypeId} {x i : Operand} (hop : o.op = .indexAddr ty x i) {t : List TV} {h : List Ob} {id : Nat} {K : OpK} (he : evIndexAddrO P ty (ev t x) (ev t i) h K) :
  ∃ v wr rd, K v wr rd ∧ OpOK P o t h id v wr rd := by
 have hmx : x ∈ o.op.operands := by rw [hop]; simp [Op.operands]
 have hmi : i ∈ o.op.operands := by rw [hop]; simp [Op.operands]
 unfold evIndexAddrO at he
 split at he
 ·rename_i e sz q k n ht hx hi
  split at he
  ·rename_i hc
   obtain ⟨d, hd⟩ := Option.ne_none_iff_exists'.1 hc.1
   have key : ∃ es, ((∃ et, getO h q = .f et sz es) ∨ getO h q = .z sz es) ∧ (0 ≤ n ∧ n < (es.length : Int)) ∧ K (.one (.ptr q n.toNat 0 e)) [] [q] := by
    split at he
    ·split at he
     ·rename_i hg he'; subst he'; exact ⟨_, .inl ⟨_, hg⟩, he⟩
     ·exact he.elim
    ·split at he
     ·rename_i hg he'; subst he'; exact ⟨_, .inr hg, he⟩
     ·exact he.elim
    ·exact he.elim
   obtain ⟨es, hg, ⟨h0, hn⟩, hk⟩ := key
   refine ⟨_, _, _, hk, fun ext w0 own0 t' h' a w Q hlen hag hrd _ R => ?_⟩
   obtain ⟨locs, H, RTm⟩ := R.repT
   have hp := ev_rep RTm x
   rw [hag x hmx, hx] at hp
   have hpi := ev_rep RTm i
   rw [hag i hmi, hi] at hpi
   have hpi' := inv_int hpi
   obtain ⟨l, ad, c, h1, h2, h3, h4, h5, h6⟩ := hp
   have hlen : l.len = es.length ∧ ∃ d', l.a = some d' ∧ d'.spot = none := by
    rcases hg with ⟨et, hg⟩ | hg
    ·have ho : h'[q]? = some (.f et sz es) := by rw [hrd q (by simp)]; exact getO_some hg (by simp)
     obtain ⟨l', hl, hob⟩ := H.get ho (by simp) (by simp)
     rw [h1] at hl; cases hl
     obtain ⟨hs, hln, hlay⟩ := hob
     rcases hlay with ⟨rfl, _⟩ | ⟨b, off, cc, ty', hla, _⟩
     ·simp at hn; omega
     ·exact ⟨hln, _, hla, rfl⟩
    ·have ho : h'[q]? = some (.z sz es) := by rw [hrd q (by simp)]; exact getO_some hg (by simp)
     obtain ⟨l', hl, hob⟩ := H.get ho (by simp) (by simp)
     rw [h1] at hl; cases hl
     obtain ⟨hs, hln, hlay⟩ := hob
     rcases hlay with rfl | ⟨b, off, hla, _⟩
     ·simp at hn; omega
     ·exact ⟨hln, _, hla, rfl⟩
   obtain ⟨hln, d', hla, hsp⟩ := hlen
   rcases h6 with h6 | h6
   ·omega
   ·subst h6
    refine wp_value (v := .pointer (some ⟨d'.block, d'.off + n.toNat * l.sz + 0, none⟩)) (w' := w) ?_ (Rep.mkput R RTm H (Later.refl _ _) (fun _ _ h => h) o.dst _ _ ⟨l, d', h1, hla, rfl⟩)
    unfold execOp; rw [hop]
    have hn' : n < (l.len : Int) := by omega
    simp [Instr.indexAt, run_underlying ht, hpi', h3, hla, asIntOf, h0, hn', run_sizeOf hd, add_eq d' hsp, hc.2, h2]
  ·exact he.elim
 ·exact he.elim
end
section
theorem putO_lt {h : List Ob} {o : Nat} {ob0 : Ob} (ho : h[o]? = some ob0) (ob : Ob) : putO h o ob = h.set o ob := by
 have hlt : o < h.length := by
  rcases Nat.lt_or_ge o h.length with h' | h'
  ·exact h'
  ·rw [List.getElem?_eq_none h'] at ho; cases ho
 simp [putO, hlt]
def evSliceO (P : Program) (ty : TypeId) (x : TV) (lo hi mx : Option Int) (h : List Ob) (id : Nat) (K : OpK) : Prop :=
 match P.underlying ty, x with
 | some (.slice e), .one (.ofl sz o) =>
  if P.underlying e ≠ none ∧ P.cellsOf e = sz then
   match getO h o with
   | .f et sz' es => if sz' = sz then bndP es.length lo hi mx (K (.one (.ofl sz id)) [(o, .no), (id, .f et sz (cutE es lo hi))] [o]) else False
   | .z sz' es => if sz' = sz then bndP es.length lo hi mx (K (.one (.fz (.sl sz (cutE es lo hi)))) [] [o]) else False
   | _ => False
  else False
 | _, _ => False
theorem cutE_eq (es : List (List FV)) (lo hi : Option Int) : cutE es lo hi = (es.take (hiN es.length hi)).drop (loN lo) := by
 cases lo <;> cases hi <;> simp [cutE, loN, hiN]
theorem sliceO_ok {P : Program} {o : Oper} {ty : TypeId} {x : Operand} {lo hi mx : Option Operand} (hop : o.op = .slice ty x lo hi mx) {t : List TV} {h : List Ob} {id : Nat} {K : OpK} {lo' hi' mx' : Option Int}
  (hlo : bound t lo = some lo') (hhi : bound t hi = some hi') (hmx : bound t mx = some mx') (he : evSliceO P ty (ev t x) lo' hi' mx' h id K) :
  ∃ v wr rd, K v wr rd ∧ OpOK P o t h id v wr rd := by
 have hmem : x ∈ o.op.operands := by rw [hop]; simp [Op.operands]
 have hexec : ∀ a : Act, execOp a.eval o = (do let v ← Instr.sliceAt ty (a.eval x) (lo.map a.eval) (hi.map a.eval) (mx.map a.eval); pure (.value v)) := fun a => by unfold execOp; rw [hop]
 have hb : ∀ {y : Option Operand} {r : Option Int}, bound t y = some r → (∀ z ∈ y.toList, z ∈ o.op.operands) → ∀ {w : World} {B : Nat → Prop} {locs : Locs} {t' : List TV} {a : Act}, (∀ x ∈ o.op.operands, ev t' x = ev t x) → RepT w B locs t' a →
   (r = none ∧ y.map a.eval = none) ∨ ∃ k n, r = some n ∧ y.map a.eval = some (.int k n) := by
  intro y r hy hym w B locs t' a hag hr
  rw [bound_congr (t' := t') y (fun z hz => (hag z (hym z hz)).symm)] at hy
  rcases bound_ok hy hr with ⟨rfl, rfl⟩ | ⟨z, k, n, rfl, rfl, hz⟩
  ·exact .inl ⟨rfl, rfl⟩
  ·exact .inr ⟨k, n, rfl, by simp [hz]⟩
 have m1 : ∀ z ∈ lo.toList, z ∈ o.op.operands := by rw [hop]; cases lo <;> simp [Op.operands]
 have m2 : ∀ z ∈ hi.toList, z ∈ o.op.operands := by rw [hop]; cases hi <;> simp [Op.operands]
 have m3 : ∀ z ∈ mx.toList, z ∈ o.op.operands := by rw [hop]; cases mx <;> simp [Op.operands]
 unfold evSliceO at he
 split at he
 ·rename_i e sz q ht hx
  split at he
  ·rename_i hc
   obtain ⟨d, hd⟩ := Option.ne_none_iff_exists'.1 hc.1
   split at he
   ·rename_i et sz' es hg
    split at he
    ·rename_i hsz'
     subst hsz'
     refine ⟨_, _, _, bndP_out he, fun ext w0 own0 t' h0 a w Q hlen hag hrd hf R => ?_⟩
     obtain ⟨locs, H, RTm⟩ := R.repT
     have hp := ev_rep RTm x
     rw [hag x hmem, hx] at hp
     have ho : h0[q]? = some (.f et sz' es) := by rw [hrd q (by simp)]; exact getO_some hg (by simp)
     obtain ⟨lc, hl, hob⟩ := H.get ho (by simp) (by simp)
     obtain ⟨l1, a1, c, h1, h2, h3, h4, h5, h6⟩ := hp
     rw [hl] at h1; cases h1
     obtain ⟨hs, hln, hlay⟩ := hob
     rw [hln] at h3 h4
     obtain ⟨l, hh, m, hrun, hle, hhe, hlh, hhl, hhm, hmc, _⟩ := run_bounds (P := P) (s := true) he h4 (hb hlo m1 hag RTm) (hb hhi m2 hag RTm) (hb hmx m3 hag RTm) w
     have hes : cutE es lo' hi' = (es.take hh).drop l := by rw [cutE_eq, ← hle, ← hhe]
     have hcl : ((es.take hh).drop l).length = hh - l := by simp; omega
     obtain ⟨hn, _⟩ := fresh_none H hf
     let l' : Loc := if m = l then ⟨none, 0, sz', 0⟩ else ⟨lc.a.map fun d => ⟨d.block, d.off + l * sz', none⟩, m - l, sz', hh - l⟩
     have hbl : ∀ d', l'.a = some d' → w.heap.size ≤ d'.block ∨ ∃ d, lc.a = some d ∧ d'.block = d.block := by
      intro d' hd'
      by_cases hml : m = l
      ·simp only [l', if_pos hml] at hd'; cases hd'
      ·simp only [l', if_neg hml, Option.map_eq_some_iff] at hd'
       obtain ⟨d, h7, rfl⟩ := hd'
       exact .inr ⟨d, h7, rfl⟩
     obtain ⟨H', lt⟩ := H.move (w' := w) (l' := l') (ob := .f et sz' (cutE es lo' hi')) ho rfl hl hf hbl (fun _ _ _ => rfl) (Nat.le_refl _) rfl rfl rfl (fun lt => by
      revert lt
      generalize Bar ext (addL locs id l') _ = B'
      intro lt
      rw [hes]
      by_cases hml : m = l
      ·have : (es.take hh).drop l = [] := List.eq_nil_of_length_eq_zero (by omega)
       rw [this]
       simp only [l', if_pos hml]
       exact ⟨rfl, rfl, .inl ⟨rfl, rfl, rfl⟩⟩
      ·simp only [l', if_neg hml]
       refine ⟨rfl, by rw [hcl], ?_⟩
       rcases hlay with ⟨rfl, h7, h8⟩ | ⟨b, off, cc, ty', hla, hheap, het, hsz, hcap, hcell⟩
       ·omega
       ·refine .inr ⟨b, off + l * sz', cc, ty', by rw [hla]; rfl, hheap, het, ?_, by rw [hcl]; show hh - l ≤ m - l; omega, fun i e he => ?_⟩
        ·have h9 : (l + (m - l)) * sz' ≤ lc.cap * sz' := Nat.mul_le_mul_right _ (by omega)
         rw [Nat.add_mul] at h9
         show off + l * sz' + (m - l) * sz' ≤ cc.size
         omega
        ·have he' : es[l + i]? = some e := by
          rw [List.getElem?_drop, List.getElem?_take] at he
          split at he
          ·exact he
          ·cases he
         obtain ⟨h9, h10⟩ := hcell _ e he'
         refine ⟨h9, fun j y hy => ?_⟩
         obtain ⟨u, hu, hr⟩ := h10 j y hy
         exact ⟨u, by rw [← hu, Nat.add_mul]; congr 1; omega, hr.later lt⟩)
     rw [show putOs h0 [(q, .no), (id, .f et sz' (cutE es lo' hi'))] = putO (h0.set q .no) id (.f et sz' (cutE es lo' hi')) from by simp [putOs, putO_lt ho]]
     refine wp_value (v := sliced a1 l hh m sz') (w' := w) ?_ (Rep.mkput R RTm H' lt (addL_mono hn) o.dst _ _ ⟨l', if m = l then a1 else a1.map (·.add (l * sz')), m - l, addL_at, ?_, ?_, ?_, ?_, ?_⟩)
     ·rw [hexec, h3]
      simp only [Instr.sliceAt, Sem.run_bind, run_underlying ht, Result.andThen, Instr.slice]
      simp [run_underlying ht, hrun, Result.andThen, run_sizeOf hd, hc.2, sliced]
     ·simp only [l']; split <;> rfl
     ·have : l'.len = hh - l := by simp only [l']; split <;> simp <;> omega
      rw [this]; rfl
     ·have : l'.len = hh - l := by simp only [l']; split <;> simp <;> omega
      rw [this]; omega
     ·by_cases hml : m = l
      ·simp only [l', if_pos hml]; omega
      ·simp only [l', if_neg hml]; omega
     ·by_cases hml : m = l
      ·exact .inl (by omega)
      ·right
       rw [if_neg hml]
       simp only [l', if_neg hml]
       rcases h6 with h6 | h6
       ·omega
       ·subst h6
        rcases hlay with ⟨rfl, h7, h8⟩ | ⟨b, off, cc, ty', hla, _⟩
        ·rw [h7]; rfl
        ·rw [hla]; simp [add_mk]
    ·exact he.elim
   ·rename_i sz' es hg
    split at he
    ·rename_i hsz'
     subst hsz'
     refine ⟨_, _, _, bndP_out he, fun ext w0 own0 t' h0 a w Q hlen hag hrd hf R => ?_⟩
     obtain ⟨locs, H, RTm⟩ := R.repT
     have hp := ev_rep RTm x
     rw [hag x hmem, hx] at hp
     have ho : h0[q]? = some (.z sz' es) := by rw [hrd q (by simp)]; exact getO_some hg (by simp)
     obtain ⟨lc, hl, hob⟩ := H.get ho (by simp) (by simp)
     have hz := z_row hl hob hp
     have hsl : ∃ a1 c, a.eval x = .slice a1 es.length c ∧ es.length ≤ c := by
      obtain ⟨a1, c, news, hn⟩ := sl_row hz
      exact ⟨a1, c, hn.val, hn.cap⟩
     obtain ⟨a1, c, h3, h4⟩ := hsl
     obtain ⟨l, hh, m, hrun, hle, hhe, hlh, hhl, hhm, hmc, _⟩ := run_bounds (P := P) (s := true) he h4 (hb hlo m1 hag RTm) (hb hhi m2 hag RTm) (hb hmx m3 hag RTm) w
     have hes : cutE es lo' hi' = (es.take hh).drop l := by rw [cutE_eq, ← hle, ← hhe]
     rw [h3] at hz
     have hpart := (sl_part hz l hh m hlh hhl hhm hmc).1
     rw [← hes] at hpart
     refine wp_value (v := sliced a1 l hh m sz') (w' := w) ?_ (Rep.mkput R RTm H (Later.refl _ _) (fun _ _ h => h) o.dst _ _ hpart)
     rw [hexec, h3]
     simp only [Instr.sliceAt, Sem.run_bind, run_underlying ht, Result.andThen, Instr.slice]
     simp [run_underlying ht, hrun, Result.andThen, run_sizeOf hd, hc.2, sliced]
    ·exact he.elim
   ·exact he.elim
  ·exact he.elim
 ·exact he.elim
end
section
def setC (es : List (List FV)) (i j : Nat) (x : FV) : List (List FV) := es.modify i fun cs => cs.set j x
theorem setC_len (es : List (List FV)) (i j : Nat) (x : FV) : (setC es i j x).length = es.length := by simp [setC]
theorem setC_get (es : List (List FV)) (i j : Nat) (x : FV) (k : Nat) : (setC es i j x)[k]? = if k = i then (es[k]?).map (fun cs => cs.set j x) else es[k]? := by
 unfold setC
 rw [List.getElem?_modify]
 by_cases e : i = k
 ·subst e; simp
 ·rw [if_neg (fun e' => e e'.symm)]; simp [e]
theorem kid_zero (j : Nat) : kid 0 j = none := rfl
def backRow (h : List Ob) (s c : Nat) : Option FV :=
 match getO h c with
 | .f _ sz es =>
  match s with
  | 0 => some (.sl sz es)
  | _ + 1 => match es with
   | [] => some (.sl sz [])
   | _ => none
 | .r s' _ sz es none none => match Nat.beq s' s with
  | true => some (.sl sz es)
  | false => none
 | _ => none
def closeW (h : List Ob) (o : Nat) : List (Nat × Ob) :=
 match getO h o with
 | .r s et sz es n (some (i, j, c)) =>
  match kid s j with
  | some s' => match backRow h s' c with
   | some x => [(o, .r s et sz (setC es i j x) n none), (c, .no)]
   | none => []
  | none => []
 | _ => []
def rdC (h : List Ob) (o : Nat) : List Nat :=
 match getO h o with
 | .r _ _ _ _ _ (some (_, _, c)) => [o, c]
 | _ => [o]
theorem getO_same {h h' : List Ob} {o : Nat} (e : h'[o]? = h[o]?) : getO h' o = getO h o := by simp [getO, List.getD_eq_getElem?_getD, e]
theorem closeW_congr {h h' : List Ob} {o : Nat} (e : ∀ i ∈ rdC h o, h'[i]? = h[i]?) : closeW h' o = closeW h o := by
 have h1 : getO h' o = getO h o := getO_same (e o (by unfold rdC; split <;> simp))
 unfold closeW
 rw [h1]
 split
 ·rename_i s et sz es n i j c hg
  have h2 : getO h' c = getO h c := getO_same (e c (by unfold rdC; rw [hg]; simp))
  split
  ·unfold backRow; rw [h2]
  ·rfl
 ·rfl
section
variable {P : Program} {ext : Nat → Prop} {w0 : World} {own0 : Own0} {locs : Locs} {h : List Ob} {w w' : World}
def hsB (locs : Locs) (o : Nat) (l : Loc) (b : Nat) : Prop := ∃ d, locs.hs o l d ∧ d.block = b
theorem slice_inv {B : Nat → Prop} {locs : Nat → Option Loc} {sz c : Nat} {v : Value} {l : Loc} (hl : locs c = some l) (hv : RA w B locs (.ofl sz c) v) : l.sz = sz ∧ ∃ a k, v = .slice a l.len k ∧ l.len ≤ k ∧ k ≤ l.cap ∧ (k = 0 ∨ a = l.a) := by
 obtain ⟨l', a, k, h1, h2, h3, h4, h5, h6⟩ := hv
 rw [hl] at h1; cases h1
 exact ⟨h2, a, k, h3, h4, h5, h6⟩
theorem backRow_tr (H : RepH P ext w0 own0 locs h w) {s c : Nat} {x : FV} (hb : backRow h s c = some x) :
  ∃ l, h[c]? = some (getO h c) ∧ (getO h c).live = true ∧ locs c = some l ∧ ∀ (sz : Nat) (v : Value), RA w (Bar ext locs h) locs (.ofl sz c) v → TR w (Bar ext locs h) s (hsB locs c l) x v := by
 unfold backRow at hb
 split at hb
 ·rename_i et sz es hg
  have hc : h[c]? = some (.f et sz es) := getO_some hg (by simp)
  obtain ⟨l, hl, hs, hln, hlay⟩ := H.get hc (by simp) (by simp)
  refine ⟨l, by rw [hg]; exact hc, by rw [hg]; rfl, hl, fun sz1 v hv => ?_⟩
  obtain ⟨hsz, a, k, rfl, k1, k2, k3⟩ := slice_inv hl hv
  have hx : x = .sl sz es ∧ (s = 0 ∨ es = []) := by
   split at hb
   ·cases hb; exact ⟨rfl, .inl rfl⟩
   ·split at hb
    ·cases hb; exact ⟨rfl, .inr rfl⟩
    ·cases hb
  obtain ⟨rfl, hse⟩ := hx
  rcases hlay with ⟨rfl, h1, h2⟩ | ⟨b, off, cc, ty, h1, h2, h3, h4, h5, h6⟩
  ·have : k = 0 := by omega
   subst this
   rw [show l.len = 0 by simpa using hln]
   exact .nil s _ sz a
  ·rcases Nat.eq_zero_or_pos k with rfl | hk
   ·have : es = [] := List.eq_nil_of_length_eq_zero (by omega)
    subst this
    rw [show l.len = 0 by simpa using hln]
    exact .nil s _ sz a
   ·rcases k3 with k3 | k3
    ·omega
    ·subst k3
     rw [h1, hln]
     refine .row s _ sz es b off l.cap k cc ty (fun _ _ _ => False) (fun i j => cc.getD (off + i * sz + j) undef) ⟨_, .inl h1, rfl⟩ h2 h4 (by omega) k2 ⟨fun _ _ _ h => h.elim, fun _ _ _ _ _ h => h.elim⟩
      (fun i e he => (h6 i e he).1) (fun i e j x he hx => ?_) (fun i e j x he hx _ => ?_) (fun i e j x s' he hx hk => ?_)
     ·obtain ⟨v, hv, _⟩ := (h6 i e he).2 j x hx
      simp [hv]
     ·obtain ⟨v, hv, hr⟩ := (h6 i e he).2 j x hx
      simpa [hv] using hr
     ·rcases hse with rfl | rfl
      ·rw [kid_zero] at hk; cases hk
      ·simp at he
 ·rename_i s' et sz es hg
  split at hb
  ·rename_i hss
   have hss := Nat.eq_of_beq_eq_true hss
   subst hss
   cases hb
   have hc : h[c]? = some (.r s' et sz es none none) := getO_some hg (by simp)
   obtain ⟨l, hl, hs, hln, hlay⟩ := H.get hc (by simp) (by simp)
   refine ⟨l, by rw [hg]; exact hc, by rw [hg]; rfl, hl, fun sz1 v hv => ?_⟩
   obtain ⟨hsz, a, k, rfl, k1, k2, k3⟩ := slice_inv hl hv
   rcases hlay with ⟨rfl, h1, h2⟩ | ⟨b, off, cc, ty, SS, h1, h2, h3, h4, h5, hp, h6⟩
   ·have : k = 0 := by omega
    subst this
    rw [show l.len = 0 by simpa using hln]
    exact .nil s' _ sz a
   ·rcases Nat.eq_zero_or_pos k with rfl | hk
    ·have : es = [] := List.eq_nil_of_length_eq_zero (by omega)
     subst this
     rw [show l.len = 0 by simpa using hln]
     exact .nil s' _ sz a
    ·rcases k3 with k3 | k3
     ·omega
     ·subst k3
      rw [h1, hln]
      refine .row s' _ sz es b off l.cap k cc ty SS (fun i j => cc.getD (off + i * sz + j) undef) ⟨_, .inl h1, rfl⟩ h2 h4 (by omega) k2 ⟨fun i j x hx => ⟨⟨⟨x, 0, none⟩, .inr (hp.sub i j x hx).1, rfl⟩, (hp.sub i j x hx).2⟩, hp.apart⟩
       (fun i e he => (h6 i e he).1) (fun i e j x he hx => ?_) (fun i e j x he hx hk => ?_) (fun i e j x s2 he hx hk => ?_)
      ·obtain ⟨v, hv, _⟩ := (h6 i e he).2 j x hx
       simp [hv]
      ·obtain ⟨v, hv, hr⟩ := (h6 i e he).2 j x hx
       unfold CR at hr
       rw [hk] at hr
       simpa [hv] using hr
      ·obtain ⟨v, hv, hr⟩ := (h6 i e he).2 j x hx
       unfold CR at hr
       rw [hk] at hr
       rcases hr with ⟨hr, _, _⟩ | ⟨_, ⟨o, _, hr, _⟩ | ⟨_, hr⟩⟩
       ·exact absurd (fun k hk => by cases hk) hr
       ·cases hr
       ·simpa [hv] using hr
  ·cases hb
 ·cases hb
theorem backRow_ob {s c : Nat} {x : FV} (hb : backRow h s c = some x) : ∀ s et sz es n i j c', getO h c ≠ .r s et sz es n (some (i, j, c')) := by
 intro s et sz es n i j c' e
 unfold backRow at hb
 rw [e] at hb
 simp at hb
theorem RepH.close (H : RepH P ext w0 own0 locs h w) (o : Nat) : ∃ locs' : Locs, locs'.l = locs.l ∧ RepH P ext w0 own0 locs' (putOs h (closeW h o)) w ∧ Later w (Bar ext locs h) w (Bar ext locs' (putOs h (closeW h o))) := by
 unfold closeW
 split
 ·rename_i s et sz es n i j c hg
  split
  ·rename_i s' hk
   split
   ·rename_i x hx
    have ho : h[o]? = some (.r s et sz es n (some (i, j, c))) := getO_some hg (by simp)
    obtain ⟨lc, hc, hlv, hlc, htr⟩ := backRow_tr H hx
    have hne : c ≠ o := by
     rintro rfl
     exact backRow_ob hx _ _ _ _ _ _ _ _ hg
    obtain ⟨l, hl, hob⟩ := H.get ho (by simp) (by simp)
    let L : Locs := ⟨locs.l, fun k b => (k ≠ o ∧ locs.own k b) ∨ (k = o ∧ (locs.own o b ∨ hsB locs c lc b))⟩
    have hLn : ∀ k, k ≠ o → L.own k = locs.own k := fun k e => funext fun b => propext ⟨fun h => h.elim (·.2) (fun h => absurd h.1 e), fun h => .inl ⟨e, h⟩⟩
    have hLo : ∀ b, L.own o b ↔ (locs.own o b ∨ hsB locs c lc b) := fun b => ⟨fun h => h.elim (fun h => absurd rfl h.1) (·.2), fun h => .inr ⟨rfl, h⟩⟩
    have hput : putOs h [(o, .r s et sz (setC es i j x) n none), (c, .no)] = (h.set o (.r s et sz (setC es i j x) n none)).set c .no := by
     have h1 : (h.set o (.r s et sz (setC es i j x) n none))[c]? = some (getO h c) := by rw [set_get ho, if_neg hne]; exact hc
     simp only [putOs, putO_lt ho, putO_lt h1]
    have hget : ∀ k, ((h.set o (.r s et sz (setC es i j x) n none)).set c .no)[k]? = if k = c then some .no else if k = o then some (.r s et sz (setC es i j x) n none) else h[k]? := fun k => by
     have h1 : (h.set o (.r s et sz (setC es i j x) n none))[c]? = some (getO h c) := by rw [set_get ho, if_neg hne]; exact hc
     rw [set_get h1, set_get ho]
    rw [hput]
    have hcB : ∀ b, hsB locs c lc b → ownB locs h b := fun b ⟨d, h1, h2⟩ => ⟨c, lc, d, _, hc, hlv, hlc, h1, h2⟩
    have hoB : ∀ d, locs.hs o l d → ownB locs h d.block := fun d h1 => ⟨o, l, d, _, ho, rfl, hl, h1, rfl⟩
    have hL : ∀ k l' d, L.hs k l' d → locs k = some l' → k ≠ c → (locs.hs k l' d) ∨ (k = o ∧ hsB locs c lc d.block) := by
     intro k l' d hd _ _
     rcases hd with hd | hd
     ·exact .inl (.inl hd)
     ·by_cases e : k = o
      ·subst e
       rcases (hLo _).1 hd with hd | hd
       ·exact .inl (.inr hd)
       ·exact .inr ⟨rfl, hd⟩
      ·rw [hLn k e] at hd; exact .inl (.inr hd)
    refine ⟨L, rfl, H.step (locs' := L) (fun k => k = o ∨ k = c) (fun _ => False) (fun b hb _ => rfl) (Nat.le_refl _) rfl rfl rfl (fun _ _ hd => hd.elim) (fun _ _ hx => hx) (fun k hk => H.len k (by simpa using hk))
     (fun k ob' hne' hk' => ?_) (fun k b hb => ?_) (fun _ _ _ _ _ _ _ _ _ hd => hd) (fun b hb hb' => ?_) (fun k k' l1 l2 ob1 ob2 d1 d2 hc' hne' hk1 hk2 hlv1 hlv2 hl1 hl2 hd1 hd2 => ?_) (fun lt k ob' hc' hk1 => ?_)⟩
    ·rw [hget, if_neg (fun e => hne' (.inr e)), if_neg (fun e => hne' (.inl e))] at hk'
     exact ⟨hk', rfl, hLn k (fun e => hne' (.inl e))⟩
    ·rcases hb with ⟨_, hb⟩ | ⟨_, hb | hb⟩
     ·exact H.ownlt k b hb
     ·exact H.ownlt o b hb
     ·exact H.own_lt (hcB b hb)
    ·obtain ⟨k, l', d, ob', h1, h2, h3, h4, rfl⟩ := hb'
     rw [hget] at h1
     by_cases e : k = c
     ·rw [if_pos e] at h1; cases h1; cases h2
     ·rw [if_neg e] at h1
      rcases hL k l' d h4 h3 e with h5 | ⟨_, h5⟩
      ·by_cases e' : k = o
       ·subst e'
        exact ⟨k, l', d, _, ho, rfl, h3, h5, rfl⟩
       ·rw [if_neg e'] at h1
        exact ⟨k, l', d, ob', h1, h2, h3, h5, rfl⟩
      ·exact hcB _ h5
    ·have hk1c : k ≠ c := by
      rintro rfl
      rw [hget, if_pos rfl] at hk1; cases hk1; cases hlv1
     have hko : k = o := hc'.elim id (fun e => absurd e hk1c)
     subst hko
     have hk2c : k' ≠ c := by
      rintro rfl
      rw [hget, if_pos rfl] at hk2; cases hk2; cases hlv2
     rw [hget, if_neg hk2c, if_neg (fun e => hne' e.symm)] at hk2
     have hd2 : locs.hs k' l2 d2 := (hL k' l2 d2 hd2 hl2 hk2c).elim id (fun h => absurd h.1.symm hne')
     have hl1' : locs k = some l1 := hl1
     rcases hL k l1 d1 hd1 hl1 hk1c with hd1 | ⟨_, dd, hd1, hd1'⟩
     ·exact H.apart k k' l1 l2 _ ob2 d1 d2 hne' ho hk2 rfl hlv2 hl1' hl2 hd1 hd2
     ·rw [← hd1']
      exact H.apart c k' lc l2 _ ob2 dd d2 (fun e => hk2c e.symm) hc hk2 hlv hlv2 hlc hl2 hd1 hd2
    ·by_cases e : k = c
     ·subst e
      rw [hget, if_pos rfl] at hk1; cases hk1; exact .inl rfl
     ·have hko : k = o := hc'.elim id (fun e' => absurd e' e)
      subst hko
      rw [hget, if_neg e, if_pos rfl] at hk1
      cases hk1
      refine .inr (.inr ⟨l, hl, ?_⟩)
      obtain ⟨a1, a2, a3⟩ := hob
      refine ⟨a1, by rw [setC_len]; exact a2, ?_⟩
      rcases a3 with ⟨rfl, a3⟩ | ⟨b, off, cc, ty, SS, b1, b2, b3, b4, b5, hp, b6⟩
      ·exact .inl ⟨by simp [setC], a3⟩
      ·have hcb : ∀ y, hsB locs c lc y → y ≠ b := by
        rintro y ⟨d, h1, rfl⟩ e'
        exact H.apart c k lc l _ _ d ⟨b, off, none⟩ hne hc ho hlv rfl hlc hl h1 (.inl b1) e'
       have hcS : ∀ y i' j', hsB locs c lc y → ¬ SS i' j' y := by
        rintro y i' j' ⟨d, h1, rfl⟩ e'
        exact H.apart c k lc l _ _ d ⟨d.block, 0, none⟩ hne hc ho hlv rfl hlc hl h1 (.inr (hp.sub _ _ _ e').1) rfl
       refine .inr ⟨b, off, cc, ty, fun i' j' y => ((i' ≠ i ∨ j' ≠ j) ∧ SS i' j' y) ∨ (i' = i ∧ j' = j ∧ hsB locs c lc y), b1, b2, b3, b4, by rw [setC_len]; exact b5, ⟨?_, ?_⟩, ?_⟩
       ·rintro i' j' y (⟨_, h1⟩ | ⟨_, _, h1⟩)
        ·exact ⟨(hLo y).2 (.inl (hp.sub i' j' y h1).1), (hp.sub i' j' y h1).2⟩
        ·exact ⟨(hLo y).2 (.inr h1), hcb y h1⟩
       ·rintro i1 j1 i2 j2 y (⟨h0, h1⟩ | ⟨e1, e2, h1⟩) (⟨h0', h2⟩ | ⟨e3, e4, h2⟩)
        ·exact hp.apart _ _ _ _ y h1 h2
        ·exact absurd h1 (hcS y _ _ h2)
        ·exact absurd h2 (hcS y _ _ h1)
        ·exact ⟨e1.trans e3.symm, e2.trans e4.symm⟩
       ·intro i' e' he'
        rw [setC_get] at he'
        by_cases ei : i' = i
        ·subst ei
         rw [if_pos rfl, Option.map_eq_some_iff] at he'
         obtain ⟨cs, hcs, rfl⟩ := he'
         obtain ⟨c1, c2⟩ := b6 i' cs hcs
         refine ⟨by simpa using c1, fun j' y hy => ?_⟩
         rw [List.getElem?_set] at hy
         by_cases ej : j = j'
         ·subst ej
          rw [if_pos rfl] at hy
          split at hy
          ·rename_i hlt
           cases hy
           obtain ⟨v, hv, hr⟩ := c2 j cs[j] (List.getElem?_eq_getElem hlt)
           refine ⟨v, hv, ?_⟩
           unfold CR at hr ⊢
           rw [hk] at hr ⊢
           rcases hr with ⟨_, hr, _⟩ | ⟨hr0, ⟨o', sz', hr, hra⟩ | ⟨hr, _⟩⟩
           ·exact absurd rfl (hr c)
           ·cases hr
            refine .inr ⟨hr0, .inr ⟨fun _ e => (by cases e), ?_⟩⟩
            exact (htr sz' v hra).later lt (fun b hb => .inr ⟨rfl, rfl, hb⟩) (fun _ _ => rfl)
           ·exact absurd rfl (hr c)
          ·cases hy
         ·rw [if_neg ej] at hy
          obtain ⟨v, hv, hr⟩ := c2 j' y hy
          refine ⟨v, hv, ?_⟩
          unfold CR at hr ⊢
          split
          ·rename_i hk'; rw [hk'] at hr; exact hr.later lt
          ·rename_i s2 hk'
           rw [hk'] at hr
           rcases hr with ⟨hr0, _, hr⟩ | ⟨hr0, ⟨o', sz', hr, hra⟩ | ⟨hr, hr2⟩⟩
           ·exact .inl ⟨hr0, fun _ e => (by cases e), hr.later lt⟩
           ·cases hr; exact absurd rfl ej
           ·exact .inr ⟨hr0, .inr ⟨fun _ e => (by cases e), hr2.later lt (fun b hb => .inl ⟨.inr (fun e => ej e.symm), hb⟩) (fun _ _ => rfl)⟩⟩
        ·rw [if_neg ei] at he'
         obtain ⟨c1, c2⟩ := b6 i' e' he'
         refine ⟨c1, fun j' y hy => ?_⟩
         obtain ⟨v, hv, hr⟩ := c2 j' y hy
         refine ⟨v, hv, ?_⟩
         unfold CR at hr ⊢
         split
         ·rename_i hk'; rw [hk'] at hr; exact hr.later lt
         ·rename_i s2 hk'
          rw [hk'] at hr
          rcases hr with ⟨hr0, _, hr⟩ | ⟨hr0, ⟨o', sz', hr, hra⟩ | ⟨hr, hr2⟩⟩
          ·exact .inl ⟨hr0, fun _ e => (by cases e), hr.later lt⟩
          ·cases hr; exact absurd rfl ei
          ·exact .inr ⟨hr0, .inr ⟨fun _ e => (by cases e), hr2.later lt (fun b hb => .inl ⟨.inl ei, hb⟩) (fun _ _ => rfl)⟩⟩
   ·exact ⟨locs, rfl, H, Later.refl _ _⟩
  ·exact ⟨locs, rfl, H, Later.refl _ _⟩
 ·exact ⟨locs, rfl, H, Later.refl _ _⟩
end
end
section
def rowOb (s sz : Nat) (es : List (List FV)) : Ob :=
 match s with
 | 0 => .f 0 sz es
 | s + 1 => .r (s + 1) 0 sz es none none
def maskC (s : Nat) (cs : List FV) : List AV := cs.zipIdx.map fun (x, k) => match kid s k with
 | some _ => .und
 | none => .fz x
theorem maskC_get {s : Nat} {cs : List FV} {k : Nat} {a : AV} (h : (maskC s cs)[k]? = some a) : ∃ x, cs[k]? = some x ∧ (a = .und ∨ kid s k = none ∧ a = .fz x) := by
 simp only [maskC, List.getElem?_map, List.getElem?_zipIdx, Option.map_map, Option.map_eq_some_iff, Function.comp] at h
 obtain ⟨x, hx, rfl⟩ := h
 refine ⟨x, hx, ?_⟩
 simp only [Nat.zero_add]
 cases hk : kid s k with
 | none => exact .inr ⟨rfl, rfl⟩
 | some _ => exact .inl rfl
section
variable {P : Program} {ext : Nat → Prop} {w0 : World} {own0 : Own0} {locs : Locs} {h : List Ob} {w w' : World}
theorem tr_row {B : Nat → Prop} {s : Nat} {S : Nat → Prop} {sz : Nat} {es : List (List FV)} {v : Value} (ht : TR w B s S (.sl sz es) v) :
  ∃ (l : Loc) (a : Option Addr) (k : Nat), v = .slice a l.len k ∧ l.sz = sz ∧ l.len ≤ k ∧ k ≤ l.cap ∧ (k = 0 ∨ a = l.a) ∧ (∀ d, l.a = some d → S d.block) ∧ ∀ (B' : Nat → Prop) (locs : Nat → Option Loc), Later w B w B' → RepOb P w B' locs S l (rowOb s sz es) := by
 generalize hx : FV.sl sz es = x at ht
 cases ht with
 | nil _ _ sz1 a =>
  cases hx
  refine ⟨⟨none, 0, sz, 0⟩, a, 0, rfl, rfl, Nat.le_refl _, Nat.le_refl _, .inl rfl, fun d hd => (by cases hd), fun B' locs lt => ?_⟩
  cases s with
  | zero => exact ⟨rfl, rfl, .inl ⟨rfl, rfl, rfl⟩⟩
  | succ s => exact ⟨rfl, rfl, .inl ⟨rfl, rfl, rfl⟩⟩
 | row _ _ sz1 es1 b off cap cp c ty SS cv hb hh hc hl hp hs he hv hf ht =>
  cases hx
  refine ⟨⟨some ⟨b, off, none⟩, cap, sz, es.length⟩, _, cp, rfl, rfl, hl, hp, .inr rfl, fun d hd => (by cases hd; exact hb), fun B' locs lt => ?_⟩
  cases s with
  | zero =>
   refine ⟨rfl, rfl, .inr ⟨b, off, c, ty, rfl, hh, .inl rfl, hc, Nat.le_trans hl hp, fun i e hi => ⟨he i e hi, fun j x hx => ⟨_, hv i e j x hi hx, ?_⟩⟩⟩⟩
   exact (hf i e j x hi hx (kid_zero j)).later lt
  | succ s =>
   refine ⟨rfl, rfl, .inr ⟨b, off, c, ty, SS, rfl, hh, .inl rfl, hc, Nat.le_trans hl hp, hs, fun i e hi => ⟨he i e hi, fun j x hx => ⟨_, hv i e j x hi hx, ?_⟩⟩⟩⟩
   unfold CR
   split
   ·rename_i hk; exact (hf i e j x hi hx hk).later lt
   ·rename_i s2 hk
    exact .inr ⟨fun k hk => (by cases hk), .inr ⟨fun _ e => (by cases e), (ht i e j x s2 hi hx hk).later lt (fun _ h => h) (fun _ _ => rfl)⟩⟩
theorem RepH.focus (H : RepH P ext w0 own0 locs h w) {o s et sz : Nat} {es : List (List FV)} {n : Option Nat} (ho : h[o]? = some (.r s et sz es n none)) {e j s' sz' : Nat} {cs : List FV} {es' : List (List FV)}
  (he : es[e]? = some cs) (hn : inN n e) (hj : cs[j]? = some (.sl sz' es')) (hk : kid s j = some s') {id : Nat} (hf : freshO h id) :
  ∃ locs' : Locs, (∀ (k : Nat) (x : Loc), locs k = some x → locs' k = some x) ∧ RepH P ext w0 own0 locs' (putOs h [(o, .r s et sz es n (some (e, j, id))), (id, rowOb s' sz' es')]) w ∧
   Later w (Bar ext locs h) w (Bar ext locs' (putOs h [(o, .r s et sz es n (some (e, j, id))), (id, rowOb s' sz' es')])) ∧
   ∃ l b off, locs o = some l ∧ l.a = some ⟨b, off, none⟩ ∧ l.sz = sz ∧ cs.length = sz ∧ ∀ (k : Nat) (y : AV), ((maskC s cs).set j (.ofl sz' id))[k]? = some y → ∃ u, w.cell? ⟨b, off + e * sz + k, none⟩ = some u ∧
    RA w (Bar ext locs' (putOs h [(o, .r s et sz es n (some (e, j, id))), (id, rowOb s' sz' es')])) locs' y u := by
 obtain ⟨l, hl, a1, a2, a3⟩ := H.get ho (by simp) (by simp)
 rcases a3 with ⟨rfl, _⟩ | ⟨b, off, cc, ty, SS, b1, b2, b3, b4, b5, hp, b6⟩
 ·simp at he
 obtain ⟨hcs, hcell⟩ := b6 e cs he
 obtain ⟨v, hv, hcr⟩ := hcell j _ hj
 have htr : TR w (Bar ext locs h) s' (SS e j) (.sl sz' es') v := by
  unfold CR at hcr
  rw [hk] at hcr
  rcases hcr with ⟨hcr, _⟩ | ⟨_, ⟨_, _, hcr, _⟩ | ⟨_, hcr⟩⟩
  ·exact absurd hn hcr
  ·cases hcr
  ·exact hcr
 obtain ⟨lc, ca, ck, hvv, c1, c2, c3, c4, c5, c6⟩ := tr_row (P := P) htr
 obtain ⟨hnone, hidle⟩ := fresh_none H hf
 have hne : o ≠ id := by rintro rfl; rw [hl] at hnone; cases hnone
 have hlt : o < h.length := (List.getElem?_eq_some_iff.1 ho).1
 let ob' : Ob := .r s et sz es n (some (e, j, id))
 let L : Locs := ⟨fun k => if k = id then some lc else locs k, fun k y => (k = id ∧ SS e j y) ∨ (k = o ∧ locs.own o y ∧ ¬ SS e j y) ∨ (k ≠ id ∧ k ≠ o ∧ locs.own k y)⟩
 have hLid : L id = some lc := if_pos rfl
 have hLn : ∀ k, k ≠ id → L k = locs k := fun k e => if_neg e
 have hOid : ∀ y, L.own id y ↔ SS e j y := fun y => ⟨fun h => by
  rcases h with ⟨_, h⟩ | ⟨h, _⟩ | ⟨h, _⟩
  ·exact h
  ·exact absurd h.symm hne
  ·exact absurd rfl h, fun h => .inl ⟨rfl, h⟩⟩
 have hOo : ∀ y, L.own o y ↔ (locs.own o y ∧ ¬ SS e j y) := fun y => ⟨fun h => by
  rcases h with ⟨h, _⟩ | ⟨_, h⟩ | ⟨_, h, _⟩
  ·exact absurd h hne
  ·exact h
  ·exact absurd rfl h, fun h => .inr (.inl ⟨rfl, h⟩)⟩
 have hOn : ∀ k, k ≠ id → k ≠ o → L.own k = locs.own k := fun k e1 e2 => funext fun y => propext ⟨fun h => by
  rcases h with ⟨h, _⟩ | ⟨h, _⟩ | ⟨_, _, h⟩
  ·exact absurd h e1
  ·exact absurd h e2
  ·exact h, fun h => .inr (.inr ⟨e1, e2, h⟩)⟩
 have hmono : ∀ (k : Nat) (x : Loc), locs k = some x → L k = some x := fun k x hx => by
  rw [hLn k (by rintro rfl; rw [hnone] at hx; cases hx)]; exact hx
 have hg : ∀ k, (putOs h [(o, ob'), (id, rowOb s' sz' es')])[k]? = if k = id then some (rowOb s' sz' es') else if k = o then some ob' else h[k]? := fun k => by
  show (putO (putO h o ob') id (rowOb s' sz' es'))[k]? = _
  rw [putO_lt ho, putO_get (by simpa using hidle), set_get ho]
 have hlen : id < (putOs h [(o, ob'), (id, rowOb s' sz' es')]).length ∧ h.length ≤ (putOs h [(o, ob'), (id, rowOb s' sz' es')]).length := by
  show id < (putO (putO h o ob') id (rowOb s' sz' es')).length ∧ _ ≤ (putO (putO h o ob') id (rowOb s' sz' es')).length
  rw [putO_lt ho]
  have := putO_len (h := h.set o ob') (o := id) (ob := rowOb s' sz' es')
  simp only [List.length_set] at this
  exact ⟨this.2 hidle, this.1⟩
 have hkid : ∀ d, L.hs id lc d → SS e j d.block := fun d hd => hd.elim (c5 d) (fun h => (hOid _).1 h)
 have hko : ∀ d, L.hs o l d → locs.hs o l d ∧ ¬ SS e j d.block := fun d hd => hd.elim (fun h => ⟨.inl h, fun h' => by
  rw [b1] at h; cases h
  exact (hp.sub e j _ h').2 rfl⟩) (fun h => ⟨.inr ((hOo _).1 h).1, ((hOo _).1 h).2⟩)
 have hSo : ∀ y, SS e j y → ownB locs h y := fun y hy => ⟨o, l, ⟨y, 0, none⟩, _, ho, rfl, hl, .inr (hp.sub e j y hy).1, rfl⟩
 have st := H.step (w' := w) (locs' := L) (h' := putOs h [(o, ob'), (id, rowOb s' sz' es')]) (fun k => k = o ∨ k = id) (fun _ => False) (fun b hb _ => rfl) (Nat.le_refl _) rfl rfl rfl (fun _ _ hd => hd.elim) hmono
  (fun k hk => by rw [hLn k (by omega)]; exact H.len k (by omega))
  (fun k ob1 hne' hk' => by
   rw [hg, if_neg (fun e => hne' (.inr e)), if_neg (fun e => hne' (.inl e))] at hk'
   exact ⟨hk', hLn k (fun e => hne' (.inr e)), hOn k (fun e => hne' (.inr e)) (fun e => hne' (.inl e))⟩)
  (fun k y hy => by
   rcases hy with ⟨_, hy⟩ | ⟨_, hy, _⟩ | ⟨_, _, hy⟩
   ·exact H.ownlt o y (hp.sub e j y hy).1
   ·exact H.ownlt o y hy
   ·exact H.ownlt k y hy)
  (fun _ _ _ _ _ _ _ _ _ hd => hd)
  (fun y hy hy' => by
   obtain ⟨k, l', d, ob1, h1, h2, h3, h4, rfl⟩ := hy'
   rw [hg] at h1
   by_cases e1 : k = id
   ·subst e1
    rw [hLid] at h3; cases h3
    exact hSo _ (hkid d h4)
   ·rw [if_neg e1] at h1
    rw [hLn k e1] at h3
    by_cases e2 : k = o
    ·subst e2
     rw [hl] at h3; cases h3
     exact ⟨k, l, d, _, ho, rfl, hl, (hko d h4).1, rfl⟩
    ·rw [if_neg e2] at h1
     exact ⟨k, l', d, ob1, h1, h2, h3, by simpa [Locs.hs, hOn k e1 e2] using h4, rfl⟩)
  (fun k k' l1 l2 ob1 ob2 d1 d2 hc' hne' hk1 hk2 hlv1 hlv2 hl1 hl2 hd1 hd2 => by
   have oth : ∀ q, q ≠ id → q ≠ o → ∀ lq obq dq, (putOs h [(o, ob'), (id, rowOb s' sz' es')])[q]? = some obq → L q = some lq → L.hs q lq dq → h[q]? = some obq ∧ locs q = some lq ∧ locs.hs q lq dq := fun q e1 e2 lq obq dq g1 g2 g3 => by
    rw [hg, if_neg e1, if_neg e2] at g1
    rw [hLn q e1] at g2
    exact ⟨g1, g2, by simpa [Locs.hs, hOn q e1 e2] using g3⟩
   rcases hc' with rfl | rfl
   ·rw [hLn k hne, hl] at hl1; cases hl1
    obtain ⟨g1, g2⟩ := hko d1 hd1
    by_cases e1 : k' = id
    ·subst e1
     rw [hLid] at hl2; cases hl2
     exact fun e' => g2 (by rw [e']; exact hkid d2 hd2)
    ·obtain ⟨i1, i2, i3⟩ := oth k' e1 (fun e => hne' e.symm) l2 ob2 d2 hk2 hl2 hd2
     exact H.apart k k' l l2 _ ob2 d1 d2 hne' ho i1 rfl hlv2 hl i2 g1 i3
   ·rw [hLid] at hl1; cases hl1
    have g1 := hkid d1 hd1
    by_cases e1 : k' = o
    ·subst e1
     rw [hLn k' hne, hl] at hl2; cases hl2
     exact fun e' => (hko d2 hd2).2 (by rw [← e']; exact g1)
    ·obtain ⟨i1, i2, i3⟩ := oth k' (fun e => hne' e.symm) e1 l2 ob2 d2 hk2 hl2 hd2
     exact fun e' => H.apart o k' l l2 _ ob2 ⟨d1.block, 0, none⟩ d2 (fun e => e1 e.symm) ho i1 rfl hlv2 hl i2 (.inr (hp.sub e j _ g1).1) i3 e')
  (fun lt k ob1 hc' hk1 => by
   rcases hc' with rfl | rfl
   ·rw [hg, if_neg hne, if_pos rfl] at hk1
    cases hk1
    refine .inr (.inr ⟨l, hmono k l hl, a1, a2, .inr ⟨b, off, cc, ty, fun i' j' y => SS i' j' y ∧ ¬ (i' = e ∧ j' = j), b1, b2, b3, b4, b5, ⟨fun i' j' y hy => ⟨(hOo y).2 ⟨(hp.sub i' j' y hy.1).1, fun h' => hy.2 ?_⟩, (hp.sub i' j' y hy.1).2⟩, fun i1 j1 i2 j2 y h1 h2 => hp.apart _ _ _ _ y h1.1 h2.1⟩, fun i' e' he' => ⟨(b6 i' e' he').1, fun j' y hy => ?_⟩⟩⟩)
    ·exact hp.apart _ _ _ _ y hy.1 h'
    ·obtain ⟨u, hu, hr⟩ := (b6 i' e' he').2 j' y hy
     refine ⟨u, hu, ?_⟩
     unfold CR at hr ⊢
     split
     ·rename_i hk'; rw [hk'] at hr; exact hr.later lt
     ·rename_i s2 hk'
      rw [hk'] at hr
      rcases hr with ⟨hr0, _, hr⟩ | ⟨hr0, ⟨_, _, hr, _⟩ | ⟨_, hr⟩⟩
      ·refine .inl ⟨hr0, fun q e => ?_, hr.later lt⟩
       cases e
       exact hr0 hn
      ·cases hr
      ·by_cases eij : i' = e ∧ j' = j
       ·obtain ⟨rfl, rfl⟩ := eij
        rw [he] at he'; cases he'
        rw [hv] at hu; cases hu
        exact .inr ⟨hr0, .inl ⟨id, sz', rfl, lc, ca, ck, hLid, c1, hvv, c2, c3, c4⟩⟩
       ·refine .inr ⟨hr0, .inr ⟨fun q e => eij ?_, hr.later lt (fun y hy => ⟨hy, eij⟩) (fun _ _ => rfl)⟩⟩
        cases e; exact ⟨rfl, rfl⟩
   ·rw [hg, if_pos rfl] at hk1
    cases hk1
    refine .inr (.inr ⟨lc, hLid, ?_⟩)
    rw [show L.own k = SS e j from funext fun y => propext (hOid y)]
    exact c6 _ _ lt)
 refine ⟨L, hmono, st.1, st.2, l, b, off, hl, b1, a1, hcs, fun k y hy => ?_⟩
 rw [List.getElem?_set] at hy
 by_cases ej : j = k
 ·subst ej
  rw [if_pos rfl] at hy
  split at hy
  ·cases hy
   exact ⟨v, by simp [World.cell?, b2, hv], lc, ca, ck, hLid, c1, hvv, c2, c3, c4⟩
  ·cases hy
 ·rw [if_neg ej] at hy
  obtain ⟨x, hx, hxy⟩ := maskC_get hy
  obtain ⟨u, hu, hr⟩ := hcell k x hx
  refine ⟨u, by simp [World.cell?, b2, hu], ?_⟩
  rcases hxy with rfl | ⟨hk', rfl⟩
  ·trivial
  ·unfold CR at hr
   rw [hk'] at hr
   exact RF.later st.2 hr
end
end
section
theorem putOs_app2 (h : List Ob) : ∀ (a b : List (Nat × Ob)), putOs h (a ++ b) = putOs (putOs h a) b
 | [], _ => rfl
 | (o, ob) :: a, b => putOs_app2 (putO h o ob) a b
def evLenR (P : Program) (ty : TypeId) (x : TV) (h : List Ob) (K : OpK) : Prop :=
 match P.underlying ty, x with
 | some (.slice _), .one (.ofl sz o) =>
  match getO h o with
  | .r _ _ sz' es _ _ => if sz' = sz then K (.one (.fz (.int .i64 (es.length : Int)))) [] [o] else False
  | _ => False
 | _, _ => False
theorem lenR_ok {P : Program} {o : Oper} {ty : TypeId} {x : Operand} (hop : o.op = .call { callee := .builtin .len, args := #[x], argTypes := #[ty] }) {t : List TV} {h : List Ob} {id : Nat} {K : OpK} (he : evLenR P ty (ev t x) h K) :
  ∃ v wr rd, K v wr rd ∧ OpOK P o t h id v wr rd := by
 have hmem : x ∈ o.op.operands := by rw [hop]; simp [Op.operands, Call.operands]
 unfold evLenR at he
 split at he
 ·rename_i e sz q ht hx
  split at he
  ·rename_i s et sz' es n fo hg
   split at he
   ·refine ⟨_, _, _, he, fun ext w0 own0 t' h' a w Q hlen hag hrd _ R => ?_⟩
    obtain ⟨locs, H, RTm⟩ := R.repT
    have hp := ev_rep RTm x
    rw [hag x hmem, hx] at hp
    have hp : RA w (Bar ext locs h') locs (.ofl sz q) (a.eval x) := hp
    have ho : h'[q]? = some (.r s et sz' es n fo) := by rw [hrd q (by simp)]; exact getO_some hg (by simp)
    obtain ⟨l, hl, _, hln, _⟩ := H.get ho (by simp) (by simp)
    obtain ⟨_, a1, k, h3, _⟩ := slice_inv hl hp
    refine wp_value (v := .int .i64 es.length) (w' := w) ?_ (Rep.mkput R RTm H (Later.refl _ _) (fun _ _ h => h) o.dst _ _ (RF.int _ _))
    unfold execOp; rw [hop]
    simp [resolve, invoke, builtin, Builtin.len_, run_underlying ht, h3, goInt, hln]
   ·exact he.elim
  ·exact he.elim
 ·exact he.elim
def evIndexAddrR (P : Program) (ty : TypeId) (x i : TV) (h : List Ob) (K : OpK) : Prop :=
 match P.underlying ty, x, i with
 | some (.slice e), .one (.ofl sz o), .one (.fz (.int _ n)) =>
  if P.underlying e ≠ none ∧ P.cellsOf e = sz then
   match getO h o with
   | .r _ _ sz' es _ _ => if sz' = sz then (0 ≤ n ∧ n < (es.length : Int)) ∧ K (.one (.ptr o n.toNat 0 e)) [] [o] else False
   | _ => False
  else False
 | _, _, _ => False
theorem indexAddrR_ok {P : Program} {o : Oper} {ty : TypeId} {x i : Operand} (hop : o.op = .indexAddr ty x i) {t : List TV} {h : List Ob} {id : Nat} {K : OpK} (he : evIndexAddrR P ty (ev t x) (ev t i) h K) :
  ∃ v wr rd, K v wr rd ∧ OpOK P o t h id v wr rd := by
 have hmx : x ∈ o.op.operands := by rw [hop]; simp [Op.operands]
 have hmi : i ∈ o.op.operands := by rw [hop]; simp [Op.operands]
 unfold evIndexAddrR at he
 split at he
 ·rename_i e sz q k n ht hx hi
  split at he
  ·rename_i hc
   obtain ⟨d, hd⟩ := Option.ne_none_iff_exists'.1 hc.1
   split at he
   ·rename_i s et sz' es nn fo hg
    split at he
    ·rename_i hsz
     subst hsz
     obtain ⟨⟨h0, hn⟩, hk⟩ := he
     refine ⟨_, _, _, hk, fun ext w0 own0 t' h' a w Q hlen hag hrd _ R => ?_⟩
     obtain ⟨locs, H, RTm⟩ := R.repT
     have hp := ev_rep RTm x
     rw [hag x hmx, hx] at hp
     have hp : RA w (Bar ext locs h') locs (.ofl _ q) (a.eval x) := hp
     have hpi := ev_rep RTm i
     rw [hag i hmi, hi] at hpi
     have hpi' := inv_int hpi
     have ho : h'[q]? = some (.r s et sz' es nn fo) := by rw [hrd q (by simp)]; exact getO_some hg (by simp)
     obtain ⟨l, hl, hs, hln, hlay⟩ := H.get ho (by simp) (by simp)
     obtain ⟨_, a1, c, h3, h4, h5, h6⟩ := slice_inv hl hp
     rcases hlay with ⟨rfl, _⟩ | ⟨b, off, cc, ty', SS, hla, _⟩
     ·simp at hn; omega
     ·rcases h6 with h6 | h6
      ·omega
      ·subst h6
       refine wp_value (v := .pointer (some ⟨b, off + n.toNat * l.sz + 0, none⟩)) (w' := w) ?_ (Rep.mkput R RTm H (Later.refl _ _) (fun _ _ h => h) o.dst _ _ ⟨l, ⟨b, off, none⟩, hl, hla, rfl⟩)
       unfold execOp; rw [hop]
       have hn' : n < (l.len : Int) := by omega
       simp [Instr.indexAt, run_underlying ht, hpi', h3, hla, asIntOf, h0, hn', run_sizeOf hd, add_eq ⟨b, off, none⟩ rfl, hc.2, hs]
    ·exact he.elim
   ·exact he.elim
  ·exact he.elim
 ·exact he.elim
def ownIn (s c : Nat) : Nat → List Nat
 | 0 => []
 | m + 1 => match kid s c with
  | some _ => c :: ownIn s (c + 1) m
  | none => ownIn s (c + 1) m
def orN (n : Option Nat) (e : Nat) (yes no : Prop) : Prop :=
 match n with
 | none => yes
 | some k => (e < k ∧ yes) ∨ (k ≤ e ∧ no)
theorem orN_out {n : Option Nat} {e : Nat} {yes no : Prop} (h : orN n e yes no) : (inN n e ∧ yes) ∨ (¬ inN n e ∧ no) := by
 cases n with
 | none => exact .inl ⟨fun k hk => (by cases hk), h⟩
 | some k =>
  rcases h with ⟨h1, h2⟩ | ⟨h1, h2⟩
  ·exact .inl ⟨fun k' hk => (by cases hk; exact h1), h2⟩
  ·exact .inr ⟨fun hin => by have := hin k rfl; omega, h2⟩
def evLoadR (P : Program) (ty : TypeId) (o e c : Nat) (ety : TypeId) (h : List Ob) (id : Nat) (K : OpK) : Prop :=
 match getO (putOs h (closeW h o)) o with
 | .r s et sz es n none =>
  match ownIn s c (P.cellsOf ty) with
  | [] => exC (kinds P ety) fun cs => es[e]? = some cs ∧ loadK P ty c (maskC s cs) fun v => K v (closeW h o) (rdC h o)
  | j :: [] => orN n e
   (exC (kinds P ety) fun cs => es[e]? = some cs ∧
    match cs[j]?, kid s j with
    | some (.sl sz' es'), some s' => loadK P ty c ((maskC s cs).set j (.ofl sz' id)) fun v => K v (closeW h o ++ [(o, .r s et sz es n (some (e, j, id))), (id, rowOb s' sz' es')]) (rdC h o)
    | _, _ => False)
   (exC (kinds P ety) fun cs => es[e]? = some cs ∧ loadK P ty c (cs.map .fz) fun v => K v (closeW h o) (rdC h o))
  | _ => False
 | _ => False
section
variable {P : Program} {ext : Nat → Prop} {w0 : World} {own0 : Own0} {locs : Locs} {h : List Ob} {w w' : World}
theorem closeW_len (h : List Ob) (o : Nat) : (putOs h (closeW h o)).length = h.length ∧ ∀ k : Nat, h[k]? = some Ob.rs → (putOs h (closeW h o))[k]? = some Ob.rs := by
 unfold closeW
 split
 ·rename_i s et sz es n i j c hg
  split
  ·rename_i s' hk
   split
   ·rename_i x hx
    have ho : h[o]? = some (.r s et sz es n (some (i, j, c))) := getO_some hg (by simp)
    have hc : ∃ ob, h[c]? = some ob ∧ ob ≠ .rs := by
     unfold backRow at hx
     split at hx
     ·rename_i hg'; exact ⟨_, getO_some hg' (by simp), by simp⟩
     ·rename_i hg'; exact ⟨_, getO_some hg' (by simp), by simp⟩
     ·cases hx
    obtain ⟨obc, hc, hcr⟩ := hc
    have hc' : ∃ ob, (h.set o (.r s et sz (setC es i j x) n none))[c]? = some ob := by
     rw [set_get ho]
     split
     ·exact ⟨_, rfl⟩
     ·exact ⟨_, hc⟩
    obtain ⟨obc', hc'⟩ := hc'
    simp only [putOs, putO_lt ho, putO_lt hc']
    refine ⟨by simp, fun k hk => ?_⟩
    rw [set_get hc', set_get ho]
    rw [if_neg (by rintro rfl; rw [hc] at hk; cases hk; exact hcr rfl), if_neg (by rintro rfl; rw [ho] at hk; cases hk)]
    exact hk
   ·exact ⟨rfl, fun _ h => h⟩
  ·exact ⟨rfl, fun _ h => h⟩
 ·exact ⟨rfl, fun _ h => h⟩
theorem closeW_fresh {o id : Nat} (hf : freshO h id) : freshO (putOs h (closeW h o)) id := by
 obtain ⟨h1, h2⟩ := closeW_len h o
 exact hf.imp (fun e => by rw [h1]; exact e) (h2 id)
theorem getO_close {h h' : List Ob} {o : Nat} (hrd : ∀ i ∈ rdC h o, h'[i]? = h[i]?) {s et sz : Nat} {es : List (List FV)} {n : Option Nat} (hg : getO (putOs h (closeW h o)) o = .r s et sz es n none) : (putOs h' (closeW h' o))[o]? = some (.r s et sz es n none) := by
 rw [closeW_congr hrd]
 have ho : h'[o]? = h[o]? := hrd o (by unfold rdC; split <;> simp)
 unfold closeW at hg ⊢
 split
 ·rename_i s1 et1 sz1 es1 n1 i j c hg1
  rw [hg1] at hg
  simp only at hg
  have hh : h[o]? = some (.r s1 et1 sz1 es1 n1 (some (i, j, c))) := getO_some hg1 (by simp)
  split
  ·rename_i s' hk
   rw [hk] at hg
   simp only at hg
   split
   ·rename_i x hx
    rw [hx] at hg
    simp only at hg
    have hne : c ≠ o := by rintro rfl; exact backRow_ob hx _ _ _ _ _ _ _ _ hg1
    have hc : ∃ ob, h[c]? = some ob := by
     unfold backRow at hx
     split at hx
     ·rename_i hg'; exact ⟨_, getO_some hg' (by simp)⟩
     ·rename_i hg'; exact ⟨_, getO_some hg' (by simp)⟩
     ·cases hx
    obtain ⟨obc, hc⟩ := hc
    have hc2 : h'[c]? = some obc := by rw [hrd c (by unfold rdC; rw [hg1]; simp)]; exact hc
    rw [hh] at ho
    have e1 : (h'.set o (.r s1 et1 sz1 (setC es1 i j x) n1 none))[c]? = some obc := by rw [set_get ho, if_neg hne]; exact hc2
    have e2 : (h.set o (.r s1 et1 sz1 (setC es1 i j x) n1 none))[c]? = some obc := by rw [set_get hh, if_neg hne]; exact hc
    simp only [putOs, putO_lt ho, putO_lt e1]
    simp only [putOs, putO_lt hh, putO_lt e2, getO, List.getD_eq_getElem?_getD, set_get e2, set_get hh] at hg
    rw [set_get e1, set_get ho]
    rw [if_neg (fun e => hne e.symm), if_pos rfl]
    rw [if_neg (fun e => hne e.symm)] at hg
    simp only [if_true, Option.getD_some] at hg
    rw [hg]
   ·rename_i hx
    rw [hx] at hg
    simp only [putOs] at hg
    rw [hg1] at hg; cases hg
  ·rename_i hk
   rw [hk] at hg
   simp only [putOs] at hg
   rw [hg1] at hg; cases hg
 ·rename_i hne
  have hg' : getO h o = .r s et sz es n none := by
   split at hg
   ·rename_i s1 et1 sz1 es1 n1 i j c hg1
    exact absurd hg1 (hne _ _ _ _ _ _ _ _)
   ·exact hg
  show h'[o]? = _
  rw [ho]
  exact getO_some hg' (by simp)
theorem CR.mask {B : Nat → Prop} {s : Nat} {n : Option Nat} {fo : Option (Nat × Nat × Nat)} {SS : Nat → Nat → Nat → Prop} {i j : Nat} {x : FV} {u : Value} {locs0 locs' : Nat → Option Loc} (hr : CR w B locs0 s n fo SS i j x u) {y : AV} (hy : y = .und ∨ kid s j = none ∧ y = .fz x) : RA w B locs' y u := by
 rcases hy with rfl | ⟨hk, rfl⟩
 ·trivial
 ·unfold CR at hr
  rw [hk] at hr
  exact hr
end
theorem loadR_ok {P : Program} {o : Oper} {ty : TypeId} {x : Operand} (hop : o.op = .load ty x) {t : List TV} {h : List Ob} {id : Nat} {K : OpK} {q e c : Nat} {ety : TypeId} (hx : ev t x = .one (.ptr q e c ety)) (he : evLoadR P ty q e c ety h id K) :
  ∃ v wr rd, K v wr rd ∧ OpOK P o t h id v wr rd := by
 have hmem : x ∈ o.op.operands := by rw [hop]; simp [Op.operands]
 have hexec : ∀ a : Act, execOp a.eval o = (do let v ← Instr.loadAt ty (a.eval x); pure (.value v)) := fun a => by unfold execOp; rw [hop]
 unfold evLoadR at he
 split at he
 ·rename_i s et sz es n hg
  have plain : ∀ (cs : List FV) (cells : List AV), es[e]? = some cs → (loadK P ty c cells fun v => K v (closeW h q) (rdC h q)) →
    (∀ (w : World) (B : Nat → Prop) (locs : Nat → Option Loc) (SS : Nat → Nat → Nat → Prop) (k : Nat) (y : AV), cells[k]? = some y → ∃ x, cs[k]? = some x ∧ ∀ u, CR w B locs s n none SS e k x u → RA w B locs y u) → ∃ v wr rd, K v wr rd ∧ OpOK P o t h id v wr rd := by
   intro cs cells hcs hld hcell
   obtain ⟨v, hk, hv⟩ := loadK_ok hld
   refine ⟨v, _, _, hk, fun ext w0 own0 t' h' a w Q hlen hag hrd hf R => ?_⟩
   obtain ⟨locs, H, RTm⟩ := R.repT
   have hp := ev_rep RTm x
   rw [hag x hmem, hx] at hp
   obtain ⟨locs1, hl1, H1, lt1⟩ := H.close q
   have hq := getO_close hrd hg
   rw [closeW_congr hrd] at H1 lt1 hq
   obtain ⟨l, hl, hs, hln, hlay⟩ := H1.get hq (by simp) (by simp)
   obtain ⟨l', d, g1, g2, g3⟩ := hp
   rw [← hl1] at g1
   rw [hl] at g1; cases g1
   rcases hlay with ⟨rfl, _⟩ | ⟨b, off, cc, ty', SS, hla, hheap, het, hsz, hcap, hpp, hrow⟩
   ·simp at hcs
   ·rw [hla] at g2; cases g2
    obtain ⟨r1, r2⟩ := hrow e cs hcs
    obtain ⟨vc, hrun, hr⟩ := hv w _ locs1 b (off + e * sz) (fun j y hy => by
     obtain ⟨z, hz, hzy⟩ := hcell w (Bar ext locs1 (putOs h' (closeW h q))) locs1 SS j y hy
     obtain ⟨u, hu, hra⟩ := r2 j z hz
     exact ⟨u, by simp [World.cell?, hheap, hu], hzy u hra⟩)
    refine wp_value (v := vc) (w' := w) ?_ (Rep.mkput R RTm H1 lt1 (fun k y hy => by rw [hl1]; exact hy) o.dst v vc hr)
    rw [hexec, g3, hs]
    simp [Instr.loadAt, Instr.sureAddr, hrun]
  split at he
  ·obtain ⟨cs, hcs, hld⟩ := exC_out he
   exact plain cs _ hcs hld (fun w B locs SS k y hy => by
    obtain ⟨z, hz, hzy⟩ := maskC_get hy
    exact ⟨z, hz, fun u hu => hu.mask hzy⟩)
  ·rename_i j hj
   rcases orN_out he with ⟨hin, he⟩ | ⟨hin, he⟩
   ·obtain ⟨cs, hcs, hld⟩ := exC_out he
    split at hld
    ·rename_i sz' es' s' hcj hk'
     obtain ⟨v, hk, hv⟩ := loadK_ok hld
     refine ⟨v, _, _, hk, fun ext w0 own0 t' h' a w Q hlen hag hrd hf R => ?_⟩
     obtain ⟨locs, H, RTm⟩ := R.repT
     have hp := ev_rep RTm x
     rw [hag x hmem, hx] at hp
     obtain ⟨locs1, hl1, H1, lt1⟩ := H.close q
     have hq := getO_close hrd hg
     have hf1 : freshO (putOs h' (closeW h' q)) id := closeW_fresh hf
     rw [closeW_congr hrd] at H1 lt1 hq hf1
     obtain ⟨locs2, hl2, H2, lt2, l, b, off, a1, a2, a3, a4, a5⟩ := H1.focus hq hcs hin hcj hk' hf1
     obtain ⟨l', d, g1, g2, g3⟩ := hp
     rw [← hl1, a1] at g1; cases g1
     rw [a2] at g2; cases g2
     obtain ⟨vc, hrun, hr⟩ := hv w _ locs2 b (off + e * sz) a5
     rw [putOs_app2]
     refine wp_value (v := vc) (w' := w) ?_ (Rep.mkput R RTm H2 ⟨fun _ _ _ => rfl, fun b hb h => lt1.bar b hb (lt2.bar b hb h)⟩ (fun k y hy => hl2 k y (by rw [hl1]; exact hy)) o.dst v vc hr)
     rw [hexec, g3, a3]
     simp [Instr.loadAt, Instr.sureAddr, hrun]
    ·exact hld.elim
   ·obtain ⟨cs, hcs, hld⟩ := exC_out he
    exact plain cs _ hcs hld (fun w B locs SS k y hy => by
     obtain ⟨z, hz, rfl⟩ := map_fz hy
     refine ⟨z, hz, fun u hu => ?_⟩
     unfold CR at hu
     split at hu
     ·exact hu
     ·rcases hu with ⟨_, _, hu⟩ | ⟨hu, _⟩
      ·exact hu
      ·exact absurd hu hin)
  ·exact he.elim
 ·exact he.elim
end
section
theorem overF_get {cs fs : List FV} {c : Nat} (h : c + fs.length ≤ cs.length) (j : Nat) (x : FV) (hx : (overF cs c fs)[j]? = some x) : (c ≤ j ∧ j < c + fs.length ∧ fs[j - c]? = some x) ∨ (¬ (c ≤ j ∧ j < c + fs.length) ∧ cs[j]? = some x) := by
 simp only [overF, List.append_assoc] at hx
 by_cases ha : j < c
 ·rw [List.getElem?_append_left (by simp; omega), List.getElem?_take_of_lt ha] at hx
  exact .inr ⟨by omega, hx⟩
 ·rw [List.getElem?_append_right (by simp; omega)] at hx
  simp only [List.length_take, Nat.min_eq_left (show c ≤ cs.length by omega)] at hx
  by_cases hb : j < c + fs.length
  ·rw [List.getElem?_append_left (by omega)] at hx
   exact .inl ⟨by omega, hb, hx⟩
  ·rw [List.getElem?_append_right (by omega), List.getElem?_drop] at hx
   exact .inr ⟨by omega, by rw [← hx]; congr 1; omega⟩
section
variable {P : Program} {ext : Nat → Prop} {w0 : World} {own0 : Own0} {locs : Locs} {h : List Ob} {w w' : World}
theorem f_as_r {B : Nat → Prop} {locs : Nat → Option Loc} {S : Nat → Prop} {l : Loc} {et sz : Nat} {es : List (List FV)} (s : Nat) (h : RepOb P w B locs S l (.f et sz es)) : RepOb P w B locs S l (.r s 0 sz es (some 0) none) := by
 obtain ⟨h1, h2, h3⟩ := h
 refine ⟨h1, h2, h3.imp_right ?_⟩
 rintro ⟨b, off, c, ty, a1, a2, a3, a4, a5, a6⟩
 refine ⟨b, off, c, ty, fun _ _ _ => False, a1, a2, .inl rfl, a4, a5, ⟨fun _ _ _ h => h.elim, fun _ _ _ _ _ h => h.elim⟩, fun i e he => ⟨(a6 i e he).1, fun j x hx => ?_⟩⟩
 obtain ⟨v, hv, hr⟩ := (a6 i e he).2 j x hx
 refine ⟨v, hv, ?_⟩
 unfold CR
 split
 ·exact hr
 ·exact .inl ⟨fun hin => Nat.not_lt_zero _ (hin 0 rfl), fun _ e => (by cases e), hr⟩
theorem RepH.writeR (H : RepH P ext w0 own0 locs h w) {q : Nat} {ob0 : Ob} (hq : h[q]? = some ob0) (hlv : ob0.live = true) {l : Loc} (hl : locs q = some l) {s et sz : Nat} {es : List (List FV)} {n : Option Nat} {fo : Option (Nat × Nat × Nat)}
  (hr : RepOb P w (Bar ext locs h) locs (locs.own q) l (.r s et sz es n fo)) {e c : Nat} {cs fs : List FV} (he : es[e]? = some cs) (hcf : c + fs.length ≤ cs.length) {us : List Value} (hul : us.length = fs.length) {n' : Option Nat} {fo' : Option (Nat × Nat × Nat)}
  (hnew : ∀ (k : Nat) (x : FV), fs[k]? = some x → ∃ u, us[k]? = some u ∧ ((kid s (c + k) = none ∧ RF w (Bar ext locs h) x u) ∨ (∃ s', kid s (c + k) = some s' ∧ ((∃ oo sz', fo' = some (e, c + k, oo) ∧ RA w (Bar ext locs h) locs (.ofl sz' oo) u) ∨ (∃ sz' a, x = .sl sz' [] ∧ u = .slice a 0 0 ∧ ∀ o, fo' ≠ some (e, c + k, o))))))
  (hfo : ∀ i j o, fo = some (i, j, o) → fo' = some (i, j, o) ∨ (i = e ∧ c ≤ j ∧ j < c + fs.length)) (hfo' : ∀ i j o, fo' = some (i, j, o) → fo = some (i, j, o) ∨ (i = e ∧ c ≤ j ∧ j < c + fs.length))
  (hn : n' = n ∨ (n = some e ∧ n' = some (e + 1) ∧ ∀ j, j < sz → kid s j ≠ none → c ≤ j ∧ j < c + fs.length)) (hin : ∀ k, k < fs.length → kid s (c + k) ≠ none → inN n' e) :
  ∃ b off cc ty, l.a = some ⟨b, off, none⟩ ∧ w.heap[b]? = some (.cells cc ty (0, 0)) ∧ off + e * sz + c + us.length ≤ cc.size ∧ l.sz = sz ∧
   RepH P ext w0 own0 locs (h.set q (.r s et sz (es.set e (overF cs c fs)) n' fo')) (w.setRow b (cc.toList.take (off + e * sz + c) ++ us ++ cc.toList.drop (off + e * sz + c + us.length)).toArray) ∧
   Later w (Bar ext locs h) (w.setRow b (cc.toList.take (off + e * sz + c) ++ us ++ cc.toList.drop (off + e * sz + c + us.length)).toArray) (Bar ext locs (h.set q (.r s et sz (es.set e (overF cs c fs)) n' fo'))) := by
 obtain ⟨hs, hln, hlay⟩ := hr
 have helt : e < es.length := (List.getElem?_eq_some_iff.1 he).1
 rcases hlay with ⟨rfl, _⟩ | ⟨b, off, cc, ty, SS, hla, hheap, het, hsz, hcap, hp, hcell⟩
 ·simp at helt
 obtain ⟨hel, hev⟩ := hcell e cs he
 have hbound : off + e * sz + sz ≤ cc.size := by
  have h4 : (e + 1) * sz ≤ l.cap * sz := Nat.mul_le_mul_right _ (by omega)
  rw [Nat.add_mul, Nat.one_mul] at h4
  omega
 have hinN : ∀ i, i ≠ e → (inN n' i ↔ inN n i) := by
  intro i hi
  rcases hn with rfl | ⟨rfl, rfl, _⟩
  ·exact Iff.rfl
  ·exact ⟨fun h k hk => by cases hk; have := h _ rfl; omega, fun h k hk => by cases hk; have := h _ rfl; omega⟩
 refine ⟨b, off, cc, ty, hla, hheap, by omega, hs, ?_⟩
 refine H.upd (ob := .r s et sz (es.set e (overF cs c fs)) n' fo') hq hlv hl hla (fun k hk hne => setRow_old w b k _ hne) (by simp) rfl rfl rfl (fun lt => ?_)
 refine ⟨hs, by rw [hln]; simp, .inr ⟨b, off, _, ty, SS, hla, setRow_heap w b cc _ ty _ hheap, het, ?_, by simpa using hcap, hp, fun i el hi => ?_⟩⟩
 ·simp only [List.size_toArray, List.length_append, List.length_take, List.length_drop, Array.length_toList]
  omega
 ·have hblk : ∀ i j x, SS i j x → (w.setRow b (cc.toList.take (off + e * sz + c) ++ us ++ cc.toList.drop (off + e * sz + c + us.length)).toArray).heap[x]? = w.heap[x]? := fun i j x hx => setRow_old w b x _ (hp.sub i j x hx).2
  rw [List.getElem?_set] at hi
  by_cases hie : e = i
  ·subst hie
   rw [if_pos rfl, if_pos helt] at hi
   cases hi
   refine ⟨by simp only [overF, List.length_append, List.length_take, List.length_drop]; omega, fun j y hy => ?_⟩
   rw [splice_get cc _ _ (by omega)]
   rcases overF_get hcf j y hy with ⟨h4, h5, h6⟩ | ⟨h4, h5⟩
   ·rw [if_pos (by omega)]
    obtain ⟨u, hu, hcase⟩ := hnew _ y h6
    refine ⟨u, by rw [← hu]; congr 1; omega, ?_⟩
    rw [show c + (j - c) = j by omega] at hcase
    unfold CR
    rcases hcase with ⟨hk, hr⟩ | ⟨s', hk, hcase⟩
    ·rw [hk]; exact hr.later lt
    ·rw [hk]
     have hin' : inN n' e := hin (j - c) (by omega) (by rw [show c + (j - c) = j by omega, hk]; simp)
     rcases hcase with ⟨oo, sz', hfo1, hra⟩ | ⟨sz', a, rfl, rfl, hfo1⟩
     ·exact .inr ⟨hin', .inl ⟨oo, sz', hfo1, hra.later lt (fun _ _ h => h)⟩⟩
     ·exact .inr ⟨hin', .inr ⟨hfo1, .nil s' _ sz' a⟩⟩
   ·rw [if_neg (by omega)]
    obtain ⟨u, hu, hr⟩ := hev j y h5
    refine ⟨u, hu, ?_⟩
    have hjs : j < sz := by have := (List.getElem?_eq_some_iff.1 h5).1; omega
    unfold CR at hr ⊢
    split
    ·rename_i hk; rw [hk] at hr; exact hr.later lt
    ·rename_i s' hk
     rw [hk] at hr
     have hn0 : n' = n := by
      rcases hn with rfl | ⟨_, _, hn⟩
      ·rfl
      ·exact absurd (hn j hjs (by rw [hk]; simp)) h4
     subst hn0
     rcases hr with ⟨hr0, hr1, hr⟩ | ⟨hr0, ⟨o, sz', hr, hra⟩ | ⟨hr1, hr⟩⟩
     ·refine .inl ⟨hr0, fun o e1 => ?_, hr.later lt⟩
      rcases hfo' _ _ _ e1 with e2 | ⟨_, e2⟩
      ·exact hr1 o e2
      ·exact h4 e2
     ·rcases hfo _ _ _ hr with e2 | ⟨_, e2⟩
      ·exact .inr ⟨hr0, .inl ⟨o, sz', e2, hra.later lt (fun _ _ h => h)⟩⟩
      ·exact absurd e2 h4
     ·refine .inr ⟨hr0, .inr ⟨fun o e1 => ?_, hr.later lt (fun _ h => h) (fun x hx => hblk _ _ x hx)⟩⟩
      rcases hfo' _ _ _ e1 with e2 | ⟨_, e2⟩
      ·exact hr1 o e2
      ·exact h4 e2
  ·rw [if_neg hie] at hi
   obtain ⟨h4, h5⟩ := hcell i el hi
   refine ⟨h4, fun j y hy => ?_⟩
   have hjl : j < sz := by have := (List.getElem?_eq_some_iff.1 hy).1; omega
   rw [splice_get cc _ _ (by omega)]
   have hout : ¬ (off + e * sz + c ≤ off + i * sz + j ∧ off + i * sz + j < off + e * sz + c + us.length) := by
    rcases Nat.lt_or_gt_of_ne hie with h6 | h6
    ·have h7 : (e + 1) * sz ≤ i * sz := Nat.mul_le_mul_right _ h6
     rw [Nat.add_mul, Nat.one_mul] at h7
     omega
    ·have h7 : (i + 1) * sz ≤ e * sz := Nat.mul_le_mul_right _ h6
     rw [Nat.add_mul, Nat.one_mul] at h7
     omega
   rw [if_neg hout]
   obtain ⟨u, hu, hr⟩ := h5 j y hy
   refine ⟨u, hu, ?_⟩
   have hni := hinN i (fun e => hie e.symm)
   unfold CR at hr ⊢
   split
   ·rename_i hk; rw [hk] at hr; exact hr.later lt
   ·rename_i s' hk
    rw [hk] at hr
    rcases hr with ⟨hr0, hr1, hr⟩ | ⟨hr0, ⟨o, sz', hr, hra⟩ | ⟨hr1, hr⟩⟩
    ·refine .inl ⟨fun h => hr0 (hni.1 h), fun o e1 => ?_, hr.later lt⟩
     rcases hfo' _ _ _ e1 with e2 | ⟨e2, _⟩
     ·exact hr1 o e2
     ·exact hie e2.symm
    ·rcases hfo _ _ _ hr with e2 | ⟨e2, _⟩
     ·exact .inr ⟨hni.2 hr0, .inl ⟨o, sz', e2, hra.later lt (fun _ _ h => h)⟩⟩
     ·exact absurd e2.symm hie
    ·refine .inr ⟨hni.2 hr0, .inr ⟨fun o e1 => ?_, hr.later lt (fun _ h => h) (fun x hx => hblk _ _ x hx)⟩⟩
     rcases hfo' _ _ _ e1 with e2 | ⟨e2, _⟩
     ·exact hr1 o e2
     ·exact hie e2.symm
theorem RepH.writeRz (H : RepH P ext w0 own0 locs h w) {q : Nat} {ob0 : Ob} (hq : h[q]? = some ob0) (hlv : ob0.live = true) {l : Loc} (hl : locs q = some l) {s et sz : Nat} {es : List (List FV)} {n : Option Nat} {fo : Option (Nat × Nat × Nat)}
  (hr : RepOb P w (Bar ext locs h) locs (locs.own q) l (.r s et sz es n fo)) {e c : Nat} {cs fs : List FV} (he : es[e]? = some cs) (hcf : c + fs.length ≤ cs.length) {us : List Value} (hul : us.length = fs.length)
  (hnew : ∀ (k : Nat) (x : FV), fs[k]? = some x → ∃ u, us[k]? = some u ∧ RF w (Bar ext locs h) x u) (hne : ¬ inN n e) (hfe : ∀ j o, fo ≠ some (e, j, o)) :
  ∃ b off cc ty, l.a = some ⟨b, off, none⟩ ∧ w.heap[b]? = some (.cells cc ty (0, 0)) ∧ off + e * sz + c + us.length ≤ cc.size ∧ l.sz = sz ∧
   RepH P ext w0 own0 locs (h.set q (.r s et sz (es.set e (overF cs c fs)) n fo)) (w.setRow b (cc.toList.take (off + e * sz + c) ++ us ++ cc.toList.drop (off + e * sz + c + us.length)).toArray) ∧
   Later w (Bar ext locs h) (w.setRow b (cc.toList.take (off + e * sz + c) ++ us ++ cc.toList.drop (off + e * sz + c + us.length)).toArray) (Bar ext locs (h.set q (.r s et sz (es.set e (overF cs c fs)) n fo))) := by
 obtain ⟨hs, hln, hlay⟩ := hr
 have helt : e < es.length := (List.getElem?_eq_some_iff.1 he).1
 rcases hlay with ⟨rfl, _⟩ | ⟨b, off, cc, ty, SS, hla, hheap, het, hsz, hcap, hp, hcell⟩
 ·simp at helt
 obtain ⟨hel, hev⟩ := hcell e cs he
 have hbound : off + e * sz + sz ≤ cc.size := by
  have h4 : (e + 1) * sz ≤ l.cap * sz := Nat.mul_le_mul_right _ (by omega)
  rw [Nat.add_mul, Nat.one_mul] at h4
  omega
 refine ⟨b, off, cc, ty, hla, hheap, by omega, hs, ?_⟩
 refine H.upd (ob := .r s et sz (es.set e (overF cs c fs)) n fo) hq hlv hl hla (fun k hk hne => setRow_old w b k _ hne) (by simp) rfl rfl rfl (fun lt => ?_)
 refine ⟨hs, by rw [hln]; simp, .inr ⟨b, off, _, ty, SS, hla, setRow_heap w b cc _ ty _ hheap, het, ?_, by simpa using hcap, hp, fun i el hi => ?_⟩⟩
 ·simp only [List.size_toArray, List.length_append, List.length_take, List.length_drop, Array.length_toList]
  omega
 ·have hblk : ∀ i j x, SS i j x → (w.setRow b (cc.toList.take (off + e * sz + c) ++ us ++ cc.toList.drop (off + e * sz + c + us.length)).toArray).heap[x]? = w.heap[x]? := fun i j x hx => setRow_old w b x _ (hp.sub i j x hx).2
  rw [List.getElem?_set] at hi
  by_cases hie : e = i
  ·subst hie
   rw [if_pos rfl, if_pos helt] at hi
   cases hi
   refine ⟨by simp only [overF, List.length_append, List.length_take, List.length_drop]; omega, fun j y hy => ?_⟩
   rw [splice_get cc _ _ (by omega)]
   rcases overF_get hcf j y hy with ⟨h4, h5, h6⟩ | ⟨h4, h5⟩
   ·rw [if_pos (by omega)]
    obtain ⟨u, hu, hcase⟩ := hnew _ y h6
    refine ⟨u, by rw [← hu]; congr 1; omega, ?_⟩
    unfold CR
    split
    ·exact hcase.later lt
    ·exact .inl ⟨hne, fun o => hfe j o, hcase.later lt⟩
   ·rw [if_neg (by omega)]
    obtain ⟨u, hu, hr⟩ := hev j y h5
    refine ⟨u, hu, ?_⟩
    have hjs : j < sz := by have := (List.getElem?_eq_some_iff.1 h5).1; omega
    unfold CR at hr ⊢
    split
    ·rename_i hk; rw [hk] at hr; exact hr.later lt
    ·rename_i s' hk
     rw [hk] at hr
     rcases hr with ⟨hr0, hr1, hr⟩ | ⟨hr0, _⟩
     ·exact .inl ⟨hr0, hr1, hr.later lt⟩
     ·exact absurd hr0 hne
  ·rw [if_neg hie] at hi
   obtain ⟨h4, h5⟩ := hcell i el hi
   refine ⟨h4, fun j y hy => ?_⟩
   have hjl : j < sz := by have := (List.getElem?_eq_some_iff.1 hy).1; omega
   rw [splice_get cc _ _ (by omega)]
   have hout : ¬ (off + e * sz + c ≤ off + i * sz + j ∧ off + i * sz + j < off + e * sz + c + us.length) := by
    rcases Nat.lt_or_gt_of_ne hie with h6 | h6
    ·have h7 : (e + 1) * sz ≤ i * sz := Nat.mul_le_mul_right _ h6
     rw [Nat.add_mul, Nat.one_mul] at h7
     omega
    ·have h7 : (i + 1) * sz ≤ e * sz := Nat.mul_le_mul_right _ h6
     rw [Nat.add_mul, Nat.one_mul] at h7
     omega
   rw [if_neg hout]
   obtain ⟨u, hu, hr⟩ := h5 j y hy
   refine ⟨u, hu, ?_⟩
   unfold CR at hr ⊢
   split
   ·rename_i hk; rw [hk] at hr; exact hr.later lt
   ·rename_i s' hk
    rw [hk] at hr
    rcases hr with ⟨hr0, hr1, hr⟩ | ⟨hr0, ⟨o, sz', hr, hra⟩ | ⟨hr1, hr⟩⟩
    ·exact .inl ⟨hr0, hr1, hr.later lt⟩
    ·exact .inr ⟨hr0, .inl ⟨o, sz', hr, hra.later lt (fun _ _ h => h)⟩⟩
    ·exact .inr ⟨hr0, .inr ⟨hr1, hr.later lt (fun _ h => h) (fun x hx => hblk _ _ x hx)⟩⟩
end
end
end Go.Proofs.YtenkkekooimpjaaGreatDoor.Ev
end
