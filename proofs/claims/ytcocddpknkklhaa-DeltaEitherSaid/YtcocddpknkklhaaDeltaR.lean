import Derived.Test.YtcocddpknkklhaaPAx8
import Derived.Test.YtcocddpknkklhaaDelta
/-! What becomes of items: the document's ways, plain. -/
set_option linter.unusedVariables false
set_option linter.unusedSimpArgs false
namespace Go.Proofs.Ytcocddpknkklhaa.DeltaP
open Go.Proofs.Ytcocddpknkklhaa.MergeP
/-- The keys rise, held side by side. -/
def adj {α : Type} (k : α → ByteArray) : List α → Bool
  | a :: b :: r => lt (k a) (k b) && adj k (b :: r)
  | _ => true
theorem adj_iff {α : Type} {k : α → ByteArray} : ∀ l : List α, adj k l = true ↔ Rises k l
  | [] => ⟨fun _ => .nil, fun _ => rfl⟩
  | [a] => ⟨fun _ => List.pairwise_singleton _ _, fun _ => rfl⟩
  | a :: b :: r => by
    simp only [adj, Bool.and_eq_true]
    rw [adj_iff (b :: r)]
    constructor
    · rintro ⟨h1, h2⟩
      have h2' := List.pairwise_cons.1 h2
      refine List.pairwise_cons.2 ⟨fun x hx => ?_, h2⟩
      rcases List.mem_cons.1 hx with rfl | hx
      · exact h1
      · exact lt_trans h1 (h2'.1 x hx)
    · intro h
      have h' := List.pairwise_cons.1 h
      exact ⟨h'.1 b (.head _), h'.2⟩
theorem adj_of {α : Type} (k : α → ByteArray) (sB nB : List α → Bool) (s0 : sB [] = true) (s1 : ∀ a, sB [a] = true) (n0 : nB [] = true) (n1 : ∀ a, nB [a] = true)
    (s2 : ∀ a b r, sB (a :: b :: r) = (!decide (Lib.compareBytes (k b).data.toList (k a).data.toList < 0) && sB (b :: r)))
    (n2 : ∀ a b r, nB (a :: b :: r) = (!((k b).toList == (k a).toList) && nB (b :: r))) : ∀ l, (sB l && nB l) = adj k l
  | [] => by rw [s0, n0]; rfl
  | [a] => by rw [s1, n1]; rfl
  | a :: b :: r => by
    have ih := adj_of k sB nB s0 s1 n0 n1 s2 n2 (b :: r)
    rw [s2, n2]
    show _ = (lt (k a) (k b) && adj k (b :: r))
    rw [← ih, ← cb_step]
    cases sB (b :: r) <;> cases nB (b :: r) <;> simp
/-- The items without a key. -/
def delL (k : ByteArray) (l : List It) : List It := l.filter fun x => decide (x.f0 ≠ k)
theorem get_del (k q : ByteArray) : ∀ l : List It, get ik q (delL k l) = if q = k then none else get ik q l
  | [] => by
    show (none : Option It) = if q = k then none else none
    by_cases h : q = k
    · rw [if_pos h]
    · rw [if_neg h]
  | x :: r => by
    have ih := get_del k q r
    unfold delL at ih ⊢
    rw [List.filter_cons]
    by_cases h : x.f0 = k
    · rw [if_neg (by simpa using h), ih]
      by_cases e : q = k
      · rw [if_pos e, if_pos e]
      · rw [if_neg e, if_neg e, get_cons_ne (show q ≠ ik x from fun z => e (z.trans h))]
    · rw [if_pos (by simpa using h)]
      by_cases e : q = ik x
      · subst e
        rw [get_cons_eq, get_cons_eq, if_neg (show ¬ ik x = k from h)]
      · rw [get_cons_ne e, get_cons_ne e, ih]
theorem rises_del {k : ByteArray} {l : List It} (h : Rises ik l) : Rises ik (delL k l) := List.Pairwise.filter _ h
/-- The items with a key. -/
def putL : List It → ByteArray → ByteArray → List It
  | [], k, v => [⟨k, v⟩]
  | x :: r, k, v => if lt x.f0 k = true then x :: putL r k v else ⟨k, v⟩ :: delL k (x :: r)
theorem get_put (k v q : ByteArray) : ∀ {l : List It}, Rises ik l → get ik q (putL l k v) = if q = k then some ⟨k, v⟩ else get ik q l
  | [], _ => by
    by_cases h : q = k
    · subst h; rw [if_pos rfl]; exact get_cons_eq (k := ik) (x := (⟨q, v⟩ : It))
    · rw [if_neg h]; exact get_cons_ne (k := ik) (x := (⟨k, v⟩ : It)) h
  | x :: r, hr => by
    have hr' := List.pairwise_cons.1 hr
    simp only [putL]
    by_cases h : lt x.f0 k = true
    · rw [if_pos h]
      by_cases e : q = ik x
      · subst e
        rw [get_cons_eq, get_cons_eq, if_neg (show ¬ ik x = k from lt_ne h)]
      · rw [get_cons_ne e, get_cons_ne e, get_put k v q hr'.2]
    · rw [if_neg h]
      by_cases e : q = k
      · subst e; rw [if_pos rfl]; exact get_cons_eq (k := ik) (x := (⟨q, v⟩ : It))
      · rw [get_cons_ne (k := ik) (x := (⟨k, v⟩ : It)) e, get_del, if_neg e, if_neg e]
theorem put_mem {k v : ByteArray} : ∀ {l : List It} {y : It}, y ∈ putL l k v → y.f0 = k ∨ y ∈ l
  | [], y, h => by
    simp only [putL, List.mem_singleton] at h
    subst h; exact .inl rfl
  | x :: r, y, h => by
    simp only [putL] at h
    by_cases e : lt x.f0 k = true
    · rw [if_pos e] at h
      rcases List.mem_cons.1 h with rfl | h
      · exact .inr (.head _)
      · rcases put_mem h with h | h
        · exact .inl h
        · exact .inr (.tail _ h)
    · rw [if_neg e] at h
      rcases List.mem_cons.1 h with rfl | h
      · exact .inl rfl
      · exact .inr (List.mem_filter.1 h).1
theorem rises_put {k v : ByteArray} : ∀ {l : List It}, Rises ik l → Rises ik (putL l k v)
  | [], _ => List.pairwise_singleton _ _
  | x :: r, hr => by
    have hr' := List.pairwise_cons.1 hr
    simp only [putL]
    by_cases e : lt x.f0 k = true
    · rw [if_pos e]
      refine List.pairwise_cons.2 ⟨fun y hy => ?_, rises_put hr'.2⟩
      rcases put_mem hy with h | h
      · show lt x.f0 y.f0 = true; rw [h]; exact e
      · exact hr'.1 y h
    · rw [if_neg e]
      refine List.pairwise_cons.2 ⟨fun y hy => ?_, rises_del hr⟩
      obtain ⟨hm, hn⟩ := List.mem_filter.1 hy
      have hn : y.f0 ≠ k := by simpa using hn
      have hkx : x.f0 = k ∨ lt k x.f0 = true := by
        rcases lt_cases x.f0 k with h | h | h
        · exact absurd h e
        · exact .inl h
        · exact .inr h
      show lt k y.f0 = true
      rcases List.mem_cons.1 hm with rfl | hm
      · rcases hkx with h | h
        · exact absurd h hn
        · exact h
      · have h1 : lt x.f0 y.f0 = true := hr'.1 y hm
        rcases hkx with h | h
        · rw [← h]; exact h1
        · exact lt_trans h h1
/-- Changes, one after the other. -/
def stepsL : List It → List Ch → List It
  | out, [] => out
  | out, c :: r => stepsL (if c.f2 = true then putL (delL c.f0 out) c.f0 c.f4 else delL c.f0 out) r
theorem step_get (out : List It) (c : Ch) (ho : Rises ik out) (q : ByteArray) : get ik q (if c.f2 = true then putL (delL c.f0 out) c.f0 c.f4 else delL c.f0 out) = if q = c.f0 then applyF (get ik q out) (some c) else get ik q out := by
  by_cases h : c.f2 = true
  · rw [if_pos h, get_put _ _ _ (rises_del ho), get_del]
    by_cases e : q = c.f0
    · rw [if_pos e, if_pos e]
      simp only [applyF]
      rw [if_pos h]
    · rw [if_neg e, if_neg e, if_neg e]
  · rw [if_neg h, get_del]
    by_cases e : q = c.f0
    · rw [if_pos e, if_pos e]
      simp only [applyF]
      rw [if_neg h]
    · rw [if_neg e, if_neg e]
theorem step_rises (out : List It) (c : Ch) (ho : Rises ik out) : Rises ik (if c.f2 = true then putL (delL c.f0 out) c.f0 c.f4 else delL c.f0 out) := by
  by_cases h : c.f2 = true
  · rw [if_pos h]; exact rises_put (rises_del ho)
  · rw [if_neg h]; exact rises_del ho
theorem steps_get : ∀ (c : List Ch) (out : List It), Rises ck c → Rises ik out → Rises ik (stepsL out c) ∧ ∀ q, get ik q (stepsL out c) = applyF (get ik q out) (get ck q c)
  | [], out, _, ho => ⟨ho, fun q => rfl⟩
  | c :: r, out, hc, ho => by
    have hc' := List.pairwise_cons.1 hc
    obtain ⟨h1, h2⟩ := steps_get r _ hc'.2 (step_rises out c ho)
    refine ⟨h1, fun q => ?_⟩
    show get ik q (stepsL _ r) = _
    rw [h2, step_get out c ho]
    by_cases e : q = c.f0
    · rw [if_pos e]
      have e1 : get ck q (c :: r) = some c := by subst e; exact get_cons_eq (k := ck) (x := c)
      have e2 : get ck q r = none := by subst e; exact get_below hc'.1
      rw [e1, e2]
      rfl
    · rw [if_neg e, get_cons_ne (k := ck) (x := c) e]
theorem steps_apply {l : List It} {c : List Ch} (hl : Rises ik l) (hc : Rises ck c) : stepsL l c = applyL l c := by
  obtain ⟨h1, h2⟩ := steps_get c l hc hl
  exact ext h1 (apply_rises hl hc) fun q => by rw [h2, apply_get hl hc]
/-- Each change fits, where its key stands. -/
theorem fits_each {l : List It} {c : List Ch} (hl : Rises ik l) (hc : Rises ck c) : fitsA l c = true ↔ ∀ x ∈ c, fitA (get ik x.f0 l) (some x) = true := by
  rw [fitsA_iff hl hc]
  constructor
  · intro h x hx
    have := h x.f0
    rw [show get ck x.f0 c = some x from get_mem hc x hx] at this
    exact this
  · intro h k
    cases e : get ck k c with
    | none => cases get ik k l <;> rfl
    | some x =>
      obtain ⟨h1, h2⟩ := get_key e
      have := h x h2
      rw [show x.f0 = k from h1] at this
      exact this
end Go.Proofs.Ytcocddpknkklhaa.DeltaP
