import Derived.Test.YtcocddpknkklhaaWWords
import Derived.Maps.OwnSet
import Derived.Maps.Views
import Derived.StringKeys
/-! A map of one's own from texts to whole numbers: which texts it has. -/
set_option linter.unusedVariables false
namespace Go.Proofs.Ytcocddpknkklhaa.Plain
open Go.RowKit Go.Proofs.YtcocddpknkklhaaW.PrintWords Go.Maps Go.WideMaps
/-- The map has just the texts of p. -/
structure HasS (D : DataW Unit) (p : ByteArray → Bool) : Prop where
  im : Maps.IsMap D
  at_ : ∀ s : ByteArray, Maps.has D (.string s.data.toList) = p s
theorem lit_ne {a b : ByteArray} (h : a ≠ b) : (Lit.string a.data.toList) ≠ .string b.data.toList := by
  intro e
  injection e with e
  apply h
  cases a; cases b
  simp at e
  simp [e]
theorem HasS.empty : HasS (.map []) (fun _ => false) := ⟨Maps.isMap_empty, fun _ => rfl⟩
theorem HasS.put {D : DataW Unit} {p : ByteArray → Bool} (h : HasS D p) (s : ByteArray) (d : DataW Unit) : HasS (D.put (.string s.data.toList) d) (fun z => decide (z = s) || p z) := by
  refine ⟨h.im.put _ _, fun z => ?_⟩
  by_cases e : z = s
  · subst e
    rw [Maps.has_put_same h.im (by unfold WideAt.IsKeyLit; trivial), decide_eq_true rfl, Bool.true_or]
  · rw [Maps.has_put_other (lit_ne e), h.at_, decide_eq_false e, Bool.false_or]
theorem HasS.del {D : DataW Unit} {p : ByteArray → Bool} (h : HasS D p) (s : ByteArray) : HasS (D.del (.string s.data.toList)) (fun z => !decide (z = s) && p z) := by
  refine ⟨h.im.del _, fun z => ?_⟩
  by_cases e : z = s
  · subst e
    rw [Maps.has_del_same, decide_eq_true rfl]; rfl
  · rw [Maps.has_del_other (lit_ne e), h.at_, decide_eq_false e]; rfl
theorem own_map_blk {P : Program} {k : TypeId} {R : Value → Option (DataW Unit × List MemPlace)} {w w1 : World} {b n : Nat} {D : DataW Unit} (h : w.ownsMap P k R b n D) (hb : Below w.heap.size w w1) : w1.ownsMap P k R b n D := by
  obtain ⟨es, clock, hh, r⟩ := h
  exact ⟨es, clock, blk_below hh hb, r⟩
/-- Block B is a map of the call's own (keys: type K, texts; elements: type E, int) with just the texts of p. -/
structure MS (P : Program) (K E : TypeId) (w0 W : World) (B n : Nat) (p : ByteArray → Bool) : Prop where
  own : ∃ D : DataW Unit, W.ownsMap P K (plainElem P E) B n D ∧ HasS D p
  hw : Below w0.heap.size w0 W
  hge : w0.heap.size ≤ B
namespace MS
variable {P : Program} {K E T : TypeId} {w0 W W' : World} {B n : Nat} {p : ByteArray → Bool}
theorem below (h : MS P K E w0 W B n p) (hb : Below W.heap.size W W') : MS P K E w0 W' B n p := by
  obtain ⟨D, h1, h2⟩ := h.own
  exact ⟨⟨D, own_map_blk h1 hb, h2⟩, below_step h.hw hb, h.hge⟩
theorem start (P : Program) (K E : TypeId) (h : Below w0.heap.size w0 W) : MS P K E w0 (W.alloc (.map #[] 0)) W.heap.size 0 (fun _ => false) :=
  ⟨⟨_, World.ownsMap_made _ _ _ _, HasS.empty⟩, h.alloc h.size _, h.size⟩
theorem put (h : MS P K E w0 W B n p) (hk : P.underlying K = some .string) (he : P.underlying E = some (.int .i64)) (ht : P.underlying T = some (.map K E)) (hn : n < maxLen) {s : ByteArray} (hs : s.size ≤ maxLen) {i : Int} (hi : (Lit.int .i64 i).wf = true) :
    ∃ W', (Instr.mapUpdate T (.map (some B)) (.string s) (.int .i64 i)).run P W = .ok () W' ∧ MS P K E w0 W' B (n + 1) (fun z => decide (z = s) || p z) ∧ W.grownBy W' (some B) := by
  obtain ⟨D, h1, h2⟩ := h.own
  obtain ⟨W', hr, h3, h4⟩ := h1.update (string_keyed hk) ht hn (keyOf_string_mk hk hs) (plainElem_int he hi)
  exact ⟨W', hr, ⟨⟨_, h3, h2.put s _⟩, h.hw.grown h4 h.hw.size (fun k e => by injection e with e; rw [← e]; exact h.hge), h.hge⟩, h4⟩
theorem mono (h : MS P K E w0 W B n p) {m : Nat} (hm : n ≤ m) : MS P K E w0 W B m p := by
  obtain ⟨D, h1, h2⟩ := h.own
  exact ⟨⟨D, h1.mono hm, h2⟩, h.hw, h.hge⟩
theorem ext {q : ByteArray → Bool} (h : MS P K E w0 W B n p) (e : ∀ s, p s = q s) : MS P K E w0 W B n q := by
  rw [show q = p from funext fun s => (e s).symm]; exact h
end MS
end Go.Proofs.Ytcocddpknkklhaa.Plain
