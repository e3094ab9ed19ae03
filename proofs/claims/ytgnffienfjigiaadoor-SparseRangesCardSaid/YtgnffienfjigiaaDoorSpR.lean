import Derived.Test.YtgnffienfjigiaaDoorPAx9
import Derived.Test.YtgnffienfjigiaaDoorSpN
/-! Where pieces are, plain. -/
set_option linter.unusedVariables false
set_option linter.unusedSimpArgs false
namespace Go.Proofs.YtgnffienfjigiaaDoor.SpP
open Go.RowKit Go.Proofs.YtgnffienfjigiaaDoor.PA Go.Proofs.YtgnffienfjigiaaDoorW.PrintWords Go.Proofs.YtgnffienfjigiaaDoorW.PrintMore
open Go.Proofs.YtgnffienfjigiaaDoor.Plain
abbrev Rg := S37
/-- The ranges of the pieces behind one that ends at 'to', and began at 'from'. -/
def rangesB (size : Int) : Int → Int → List Pc → List Rg
  | a, b, [] => [⟨a, b⟩]
  | a, b, p :: l => if b = p.f0 * 64 then rangesB size a (p.f0 * 64 + min 64 (size - p.f0 * 64)) l else ⟨a, b⟩ :: rangesB size (p.f0 * 64) (p.f0 * 64 + min 64 (size - p.f0 * 64)) l
def rangesL (size : Int) : List Pc → List Rg
  | [] => []
  | p :: l => rangesB size (p.f0 * 64) (p.f0 * 64 + min 64 (size - p.f0 * 64)) l
theorem rangesB_ok (size : Int) : ∀ (l : List Pc) (a b : Int), a < b → b ≤ size → Rise l → (∀ p ∈ l, b ≤ p.f0 * 64 ∧ p.f0 * 64 < size) →
    (∀ r ∈ rangesB size a b l, a ≤ r.f0 ∧ r.f0 < r.f1 ∧ r.f1 ≤ size) ∧ (rangesB size a b l).Pairwise (fun x y => x.f1 < y.f0) ∧
    ∀ q, 0 ≤ q → q < size → ((∃ r ∈ rangesB size a b l, r.f0 ≤ q ∧ q < r.f1) ↔ ((a ≤ q ∧ q < b) ∨ ∃ p ∈ l, p.f0 = q / 64))
  | [], a, b, hab, hb, _, _ => by
    refine ⟨fun r hr => ?_, List.pairwise_singleton _ _, fun q _ _ => ⟨?_, ?_⟩⟩
    · obtain rfl := List.mem_singleton.1 hr
      exact ⟨Int.le_refl _, hab, hb⟩
    · rintro ⟨r, hr, h⟩
      obtain rfl := List.mem_singleton.1 hr
      exact .inl h
    · rintro (h | ⟨p, hp, _⟩)
      · exact ⟨_, List.mem_singleton.2 rfl, h⟩
      · cases hp
  | p :: l, a, b, hab, hb, hr, hl => by
    obtain ⟨h1, h2⟩ := List.pairwise_cons.1 hr
    have hp := hl p (List.mem_cons_self ..)
    have hl2 : ∀ x ∈ l, p.f0 * 64 + min 64 (size - p.f0 * 64) ≤ x.f0 * 64 ∧ x.f0 * 64 < size := fun x hx => by
      have := h1 x hx
      have := hl x (List.mem_cons_of_mem _ hx)
      omega
    have hq : ∀ q, 0 ≤ q → q < size → ((p.f0 * 64 ≤ q ∧ q < p.f0 * 64 + min 64 (size - p.f0 * 64)) ↔ p.f0 = q / 64) := fun q _ _ => by omega
    unfold rangesB
    by_cases e : b = p.f0 * 64
    · rw [if_pos e]
      obtain ⟨i1, i2, i3⟩ := rangesB_ok size l a (p.f0 * 64 + min 64 (size - p.f0 * 64)) (by omega) (by omega) h2 hl2
      refine ⟨i1, i2, fun q q0 q1 => (i3 q q0 q1).trans ?_⟩
      have := hq q q0 q1
      constructor
      · rintro (h | ⟨x, hx, h⟩)
        · by_cases hb2 : q < b
          · exact .inl ⟨h.1, hb2⟩
          · exact .inr ⟨p, List.mem_cons_self .., this.1 (by omega)⟩
        · exact .inr ⟨x, List.mem_cons_of_mem _ hx, h⟩
      · rintro (h | ⟨x, hx, h⟩)
        · exact .inl (by omega)
        · rcases List.mem_cons.1 hx with rfl | hx
          · have := this.2 h
            exact .inl (by omega)
          · exact .inr ⟨x, hx, h⟩
    · rw [if_neg e]
      obtain ⟨i1, i2, i3⟩ := rangesB_ok size l (p.f0 * 64) (p.f0 * 64 + min 64 (size - p.f0 * 64)) (by omega) (by omega) h2 hl2
      refine ⟨fun r hr => ?_, List.pairwise_cons.2 ⟨fun r hr => ?_, i2⟩, fun q q0 q1 => ?_⟩
      · rcases List.mem_cons.1 hr with rfl | hr
        · exact ⟨Int.le_refl _, hab, hb⟩
        · have := i1 r hr
          omega
      · have := i1 r hr
        show b < _
        omega
      · have h3 := i3 q q0 q1
        have := hq q q0 q1
        constructor
        · rintro ⟨r, hr, h⟩
          rcases List.mem_cons.1 hr with rfl | hr
          · exact .inl h
          · rcases h3.1 ⟨r, hr, h⟩ with h | ⟨x, hx, h⟩
            · exact .inr ⟨p, List.mem_cons_self .., this.1 h⟩
            · exact .inr ⟨x, List.mem_cons_of_mem _ hx, h⟩
        · rintro (h | ⟨x, hx, h⟩)
          · exact ⟨_, List.mem_cons_self .., h⟩
          · have h4 : (p.f0 * 64 ≤ q ∧ q < p.f0 * 64 + min 64 (size - p.f0 * 64)) ∨ ∃ p ∈ l, p.f0 = q / 64 := by
              rcases List.mem_cons.1 hx with rfl | hx
              · exact .inl (this.2 h)
              · exact .inr ⟨x, hx, h⟩
            obtain ⟨r, hr, h5⟩ := h3.2 h4
            exact ⟨r, List.mem_cons_of_mem _ hr, h5⟩
theorem ranges_ok {l : List Pc} {size : Int} (h : Good l size) :
    (∀ r ∈ rangesL size l, r.f0 < r.f1 ∧ r.f1 ≤ size) ∧ (rangesL size l).Pairwise (fun x y => x.f1 < y.f0) ∧
    ∀ q, 0 ≤ q → q < size → ((∃ r ∈ rangesL size l, r.f0 ≤ q ∧ q < r.f1) ↔ ∃ p ∈ l, p.f0 = q / 64) := by
  cases l with
  | nil => exact ⟨(fun r hr => by cases hr), List.Pairwise.nil, fun q _ _ => ⟨(fun ⟨r, hr, _⟩ => by cases hr), (fun ⟨r, hr, _⟩ => by cases hr)⟩⟩
  | cons p l =>
    obtain ⟨h1, h2⟩ := List.pairwise_cons.1 h.rise
    have hp := h.idx p (List.mem_cons_self ..)
    obtain ⟨i1, i2, i3⟩ := rangesB_ok size l (p.f0 * 64) (p.f0 * 64 + min 64 (size - p.f0 * 64)) (by omega) (by omega) h2 (fun x hx => by
      have := h1 x hx
      have := h.idx x (List.mem_cons_of_mem _ hx)
      omega)
    refine ⟨fun r hr => (i1 r hr).2, i2, fun q q0 q1 => (i3 q q0 q1).trans ?_⟩
    constructor
    · rintro (h | ⟨x, hx, h⟩)
      · exact ⟨p, List.mem_cons_self .., by omega⟩
      · exact ⟨x, List.mem_cons_of_mem _ hx, h⟩
    · rintro ⟨x, hx, h⟩
      rcases List.mem_cons.1 hx with rfl | hx
      · exact .inl (by omega)
      · exact .inr ⟨x, hx, h⟩
end Go.Proofs.YtgnffienfjigiaaDoor.SpP
