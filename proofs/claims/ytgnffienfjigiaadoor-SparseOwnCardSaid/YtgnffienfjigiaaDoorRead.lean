import Derived.ChangeArms
import Derived.WideShapes
import Derived.Test.YtgnffienfjigiaaDoorWWords
/-! How the data of an argument read as a kind of the print's ('Kd'): for whole numbers, bools, strings, slices and structs of these, of any depth. -/
namespace Go.Proofs.YtgnffienfjigiaaDoor.Read
open Go.RowKit Go.Proofs.YtgnffienfjigiaaDoorW.PrintWords

/-- Whatever reads at type t has cells that are kind d's, of a value that meets wf. -/
def Rd (P : Program) (t : TypeId) {α : Type} (d : Kd α) (wf : α → Prop) : Prop :=
  ∀ (H : Type) (enc : TypeId × Value → H) (w : World) (base : Nat) (spare : Nat → Bool) (held : Bool) (fuel : Nat) (cs : List Value) (x : DataW H × List MemPlace),
    DataW.trod enc P w base spare held fuel t cs = some x → ∃ a, d.K w a cs ∧ wf a

section
variable {P : Program} {t e : TypeId} {α β : Type}
theorem Rd.int {k : IntKind} (hu : P.underlying t = some (.int k)) : Rd P t (Kd.int k) (fun n => (Lit.int k n).wf = true) := by
  intro H enc w base spare held fuel cs x h
  obtain ⟨n, rfl, _, hw⟩ := DataW.trod_int hu h
  exact ⟨n, rfl, hw⟩
theorem Rd.bool (hu : P.underlying t = some .bool) : Rd P t Kd.bool (fun _ => True) := by
  intro H enc w base spare held fuel cs x h
  obtain ⟨n, rfl, _⟩ := DataW.trod_bool hu h
  exact ⟨n, rfl, trivial⟩
theorem Rd.string (hu : P.underlying t = some .string) : Rd P t Kd.string (fun s => s.size ≤ maxLen) := by
  intro H enc w base spare held fuel cs x h
  obtain ⟨s, rfl, _, hs⟩ := DataW.trod_string hu h
  exact ⟨s, rfl, hs⟩
theorem list_of {p : Nat → α → Prop} : ∀ (n : Nat), (∀ i, i < n → ∃ a, p i a) → ∃ l : List α, l.length = n ∧ ∀ (i : Nat) (a : α), l[i]? = some a → p i a
  | 0, _ => ⟨[], rfl, fun i a h => by simp at h⟩
  | n + 1, h => by
    obtain ⟨l, hl, hp⟩ := list_of n (fun i hi => h i (by omega))
    obtain ⟨a, ha⟩ := h n (by omega)
    refine ⟨l ++ [a], by simp [hl], fun i b hb => ?_⟩
    rcases Nat.lt_or_ge i n with hi | hi
    · rw [List.getElem?_append_left (by omega)] at hb
      exact hp i b hb
    · have : i = n := by
        have := (List.getElem?_eq_some_iff.mp hb).1
        simp at this
        omega
      subst this
      rw [← hl, List.getElem?_concat_length] at hb
      injection hb with hb
      rw [← hb]
      exact ha
theorem cells_get {w : World} {base n : Nat} {a : Addr} {c : List Value} (h : w.cells? base a n = some c) : c.length = n ∧ ∀ i u, c[i]? = some u → w.cell? (a.add i) = some u := by
  unfold World.cells? at h
  split at h
  case isFalse => cases h
  have hl : c.length = n := by simpa using mapM_some_length h
  refine ⟨hl, fun i u hu => ?_⟩
  have hi : i < n := by have := (List.getElem?_eq_some_iff.mp hu).1; omega
  have := mapM_some_get h i i (by simp [hi])
  rw [this, hu]
theorem add_add_ (a : Addr) (i j : Nat) : (a.add i).add j = a.add (i + j) := by
  unfold Addr.add
  by_cases hi : i = 0 <;> by_cases hj : j = 0 <;> simp [hi, hj, Nat.add_assoc]
theorem Rd.slice {d : Kd α} {wf : α → Prop} (hu : P.underlying t = some (.slice e)) (hd : Rd P e d wf) (hc : P.cellsOf e = d.sz) : Rd P t (Kd.slice e d) (fun l => l.length ≤ maxLen ∧ ∀ x ∈ l, wf x) := by
  intro H enc w base spare held fuel cs x h
  rcases DataW.trod_slice hu h with ⟨rfl, _⟩ | ⟨a, len, cap, elems, rest, n, _, rfl, _, _, hlc, hcm, hel, hget, _⟩
  · exact ⟨[], ⟨none, 0, rfl, Nat.le_refl _, ⟨rfl, by simp, fun h => absurd h (by simp)⟩⟩, by simp, by simp⟩
  · have key : ∀ i, i < len → ∃ b, ∃ c, c.length = d.sz ∧ d.K w b c ∧ wf b ∧ ∀ j u, c[j]? = some u → w.cell? (a.add (i * d.sz + j)) = some u := by
      intro i hi
      have h1 := hget i hi
      rw [List.getElem?_eq_getElem (by omega)] at h1
      obtain ⟨c, hcs, ht⟩ := Option.bind_eq_some_iff.mp h1
      obtain ⟨b, hb, hw⟩ := hd H enc w base spare held n c _ ht
      obtain ⟨hl, hcell⟩ := cells_get hcs
      rw [hc] at hl hcell
      exact ⟨b, c, hl, hb, hw, fun j u hu => by rw [← add_add_]; exact hcell j u hu⟩
    obtain ⟨l, hl, hp⟩ := list_of len key
    refine ⟨l, ⟨some a, cap, by rw [hl], by omega, rfl, by unfold maxLen at hcm; omega, fun _ => ⟨a, rfl, fun j p hj => ?_⟩⟩, by omega, fun x hx => ?_⟩
    · obtain ⟨c, h1, h2, _, h4⟩ := hp j p hj
      exact ⟨c, h1, h2, h4⟩
    · obtain ⟨i, hi, rfl⟩ := List.getElem_of_mem hx
      obtain ⟨c, _, _, h3, _⟩ := hp i _ (List.getElem?_eq_getElem hi)
      exact h3
/-- A struct's fields, from offset o on. -/
def RdF (P : Program) (fs : List Field) (o : Nat) (d : Kd α) (wf : α → Prop) : Prop :=
  ∀ (H : Type) (enc : TypeId × Value → H) (w : World) (base : Nat) (spare : Nat → Bool) (held : Bool) (n : Nat) (cs : List Value),
    (∀ f ∈ fs, ∃ y, DataW.trod enc P w base spare held n f.type ((cs.drop f.offset).take (P.cellsOf f.type)) = some y) → ∃ a, d.K w a ((cs.drop o).take d.sz) ∧ wf a
theorem RdF.one {f : Field} {o : Nat} {d : Kd α} {wf : α → Prop} (hd : Rd P f.type d wf) (ho : f.offset = o) (hc : P.cellsOf f.type = d.sz) : RdF P [f] o d wf := by
  intro H enc w base spare held n cs h
  obtain ⟨y, hy⟩ := h f (by simp)
  rw [ho, hc] at hy
  exact hd H enc w base spare held n _ y hy
theorem RdF.cons {f : Field} {fs : List Field} {o : Nat} {d0 : Kd α} {d1 : Kd β} {wf0 : α → Prop} {wf1 : β → Prop} (hd : Rd P f.type d0 wf0) (ho : f.offset = o) (hc : P.cellsOf f.type = d0.sz)
    (hr : RdF P fs (o + d0.sz) d1 wf1) : RdF P (f :: fs) o (Kd.pair d0 d1) (fun x => wf0 x.1 ∧ wf1 x.2) := by
  intro H enc w base spare held n cs h
  obtain ⟨y, hy⟩ := h f (by simp)
  rw [ho, hc] at hy
  obtain ⟨a, ha, hwa⟩ := hd H enc w base spare held n _ y hy
  obtain ⟨b, hb, hwb⟩ := hr H enc w base spare held n cs (fun g hg => h g (by simp [hg]))
  refine ⟨(a, b), ⟨_, _, ?_, ha, hb⟩, hwa, hwb⟩
  show List.take (d0.sz + d1.sz) (List.drop o cs) = _
  rw [List.take_add, List.drop_drop]
theorem Rd.struct {fs : List Field} {d : Kd α} {wf : α → Prop} {wf' : β → Prop} (f : β → α) (g : α → β) (hu : P.underlying t = some (.struct fs.toArray)) (hfg : ∀ a, f (g a) = a) (hw : ∀ a, wf a → wf' (g a))
    (hr : RdF P fs 0 d wf) (hc : P.cellsOf t = d.sz) : Rd P t (Kd.iso d f) wf' := by
  intro H enc w base spare held fuel cs x h
  obtain ⟨xs, n, _, _, hl, hxl, hget⟩ := DataW.trod_struct hu h
  obtain ⟨a, ha, hwa⟩ := hr H enc w base spare held n cs (fun q hq => by
    obtain ⟨i, hi, rfl⟩ := List.getElem_of_mem hq
    have h1 := hget i fs[i] (by simp [hi])
    rw [List.getElem?_eq_getElem (by simp at hxl; omega)] at h1
    exact ⟨_, h1⟩)
  refine ⟨g a, ?_, hw a hwa⟩
  show d.K w (f (g a)) cs
  rw [hfg]
  have e : (cs.drop 0).take d.sz = cs := by rw [List.drop_zero, List.take_of_length_le (by omega)]
  rw [e] at ha
  exact ha
end
end Go.Proofs.YtgnffienfjigiaaDoor.Read
