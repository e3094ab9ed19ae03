import Derived.Test.YtcocddpknkklhaaPAx8
import Derived.Test.YtcocddpknkklhaaMerge
/-! What becomes of items: plain. -/
set_option linter.unusedVariables false
set_option linter.unusedSimpArgs false
namespace Go.Proofs.Ytcocddpknkklhaa.DeltaP
open Go.Proofs.Ytcocddpknkklhaa.MergeP
abbrev It := Go.Proofs.Ytcocddpknkklhaa.PA.S59
abbrev Ch := Go.Proofs.Ytcocddpknkklhaa.PA.S61
abbrev E : ByteArray := ⟨#[]⟩
def ik (x : It) : ByteArray := x.f0
def ck (x : Ch) : ByteArray := x.f0
instance (a b : ByteArray) : Decidable (a = b) := inferInstance
/-- What becomes of a key. -/
def diffF : Option It → Option It → Option Ch
  | none, none => none
  | some x, none => some ⟨x.f0, true, false, x.f1, E⟩
  | none, some y => some ⟨y.f0, false, true, E, y.f1⟩
  | some x, some y => if x.f1 = y.f1 then none else some ⟨y.f0, true, true, x.f1, y.f1⟩
def fitA : Option It → Option Ch → Bool
  | _, none => true
  | none, some y => !y.f1
  | some x, some y => y.f1 && decide (x.f1 = y.f3)
def applyF : Option It → Option Ch → Option It
  | x, none => x
  | _, some y => if y.f2 = true then some ⟨y.f0, y.f4⟩ else none
def fitJ : Option Ch → Option Ch → Bool
  | _, none => true
  | none, _ => true
  | some x, some y => (x.f2 == y.f1) && decide (x.f4 = y.f3)
def joinF : Option Ch → Option Ch → Option Ch
  | x, none => x
  | none, y => y
  | some x, some y => if x.f1 = y.f2 ∧ x.f3 = y.f4 then none else some ⟨x.f0, x.f1, y.f2, x.f3, y.f4⟩
def turn (x : Ch) : Ch := ⟨x.f0, x.f2, x.f1, x.f4, x.f3⟩
/-- Is a change right? -/
def rightC (c : Ch) : Bool := if (c.f1 && c.f2) = true then decide (c.f3 ≠ c.f4) else if c.f1 = true then decide (c.f4 = E) else if c.f2 = true then decide (c.f3 = E) else false
theorem diff_keeps : Keeps ik ik ck diffF := by
  refine ⟨?_, ?_, rfl⟩
  · intro x y z h hy
    cases y with
    | none => simp only [diffF, Option.some.injEq] at h; subst h; rfl
    | some y =>
      simp only [diffF] at h
      by_cases e : x.f1 = y.f1
      · rw [if_pos e] at h; cases h
      · rw [if_neg e] at h; cases h; exact hy y rfl
  · intro x y z h hx
    cases x with
    | none => simp only [diffF, Option.some.injEq] at h; subst h; rfl
    | some x =>
      simp only [diffF] at h
      by_cases e : x.f1 = y.f1
      · rw [if_pos e] at h; cases h
      · rw [if_neg e] at h; cases h; rfl
theorem apply_keeps : Keeps ik ck ik applyF := by
  refine ⟨?_, ?_, rfl⟩
  · intro x y z h hy
    cases y with
    | none => simp only [applyF, Option.some.injEq] at h; subst h; rfl
    | some y =>
      simp only [applyF] at h
      by_cases e : y.f2 = true
      · rw [if_pos e] at h; cases h; exact hy y rfl
      · rw [if_neg e] at h; cases h
  · intro x y z h hx
    simp only [applyF] at h
    by_cases e : y.f2 = true
    · rw [if_pos e] at h; cases h; rfl
    · rw [if_neg e] at h; cases h
theorem join_keeps : Keeps ck ck ck joinF := by
  refine ⟨?_, ?_, rfl⟩
  · intro x y z h hy
    cases y with
    | none => simp only [joinF, Option.some.injEq] at h; subst h; rfl
    | some y =>
      simp only [joinF] at h
      by_cases e : x.f1 = y.f2 ∧ x.f3 = y.f4
      · rw [if_pos e] at h; cases h
      · rw [if_neg e] at h; cases h; rfl
  · intro x y z h hx
    cases x with
    | none => simp only [joinF, Option.some.injEq] at h; subst h; rfl
    | some x =>
      simp only [joinF] at h
      by_cases e : x.f1 = y.f2 ∧ x.f3 = y.f4
      · rw [if_pos e] at h; cases h
      · rw [if_neg e] at h; cases h; exact hx x rfl
def diffL (a b : List It) : List Ch := made diffF (pairs ik ik a b)
def applyL (a : List It) (c : List Ch) : List It := made applyF (pairs ik ck a c)
def joinL (c d : List Ch) : List Ch := made joinF (pairs ck ck c d)
def fitsA (a : List It) (c : List Ch) : Bool := (pairs ik ck a c).all fun p => fitA p.1 p.2
def fitsJ (c d : List Ch) : Bool := (pairs ck ck c d).all fun p => fitJ p.1 p.2
theorem diff_get {a b : List It} (ha : Rises ik a) (hb : Rises ik b) (k : ByteArray) : get ck k (diffL a b) = diffF (get ik k a) (get ik k b) := made_get diff_keeps ha hb k
theorem diff_rises {a b : List It} (ha : Rises ik a) (hb : Rises ik b) : Rises ck (diffL a b) := made_rises diff_keeps ha hb
theorem apply_get {a : List It} {c : List Ch} (ha : Rises ik a) (hc : Rises ck c) (k : ByteArray) : get ik k (applyL a c) = applyF (get ik k a) (get ck k c) := made_get apply_keeps ha hc k
theorem apply_rises {a : List It} {c : List Ch} (ha : Rises ik a) (hc : Rises ck c) : Rises ik (applyL a c) := made_rises apply_keeps ha hc
theorem join_get {c d : List Ch} (hc : Rises ck c) (hd : Rises ck d) (k : ByteArray) : get ck k (joinL c d) = joinF (get ck k c) (get ck k d) := made_get join_keeps hc hd k
theorem join_rises {c d : List Ch} (hc : Rises ck c) (hd : Rises ck d) : Rises ck (joinL c d) := made_rises join_keeps hc hd
theorem fitsA_iff {a : List It} {c : List Ch} (ha : Rises ik a) (hc : Rises ck c) : fitsA a c = true ↔ ∀ k, fitA (get ik k a) (get ck k c) = true := pairs_all rfl ha hc
theorem fitsJ_iff {c d : List Ch} (hc : Rises ck c) (hd : Rises ck d) : fitsJ c d = true ↔ ∀ k, fitJ (get ck k c) (get ck k d) = true := pairs_all rfl hc hd
/-- At one key. -/
theorem at_back (A B : Option It) : fitA A (diffF A B) = true := by
  cases A with
  | none => cases B <;> rfl
  | some x =>
    cases B with
    | none => simp [diffF, fitA]
    | some y =>
      simp only [diffF]
      by_cases e : x.f1 = y.f1
      · rw [if_pos e]; rfl
      · rw [if_neg e]; simp [fitA]
theorem at_back2 (A B : Option It) (h : ∀ x y, A = some x → B = some y → x.f0 = y.f0) : applyF A (diffF A B) = B := by
  cases A with
  | none =>
    cases B with
    | none => rfl
    | some y => obtain ⟨k, v⟩ := y; simp [diffF, applyF]
  | some x =>
    cases B with
    | none => simp [diffF, applyF]
    | some y =>
      have hk := h x y rfl rfl
      simp only [diffF]
      by_cases e : x.f1 = y.f1
      · rw [if_pos e]
        obtain ⟨k, v⟩ := x
        obtain ⟨k2, v2⟩ := y
        dsimp only at e hk
        subst e; subst hk; rfl
      · rw [if_neg e]
        obtain ⟨k2, v2⟩ := y
        simp [applyF]
theorem at_turn (A B : Option It) (h : ∀ x y, A = some x → B = some y → x.f0 = y.f0) : (diffF A B).map turn = diffF B A := by
  cases A with
  | none => cases B <;> rfl
  | some x =>
    cases B with
    | none => rfl
    | some y =>
      have hk := h x y rfl rfl
      simp only [diffF]
      by_cases e : x.f1 = y.f1
      · rw [if_pos e, if_pos e.symm]; rfl
      · rw [if_neg e, if_neg (fun q => e q.symm)]
        simp [turn, hk]
theorem at_join (A B C : Option It) (h1 : ∀ x y, A = some x → B = some y → x.f0 = y.f0) (h2 : ∀ x y, B = some x → C = some y → x.f0 = y.f0) (h3 : ∀ x y, A = some x → C = some y → x.f0 = y.f0) :
    fitJ (diffF A B) (diffF B C) = true ∧ joinF (diffF A B) (diffF B C) = diffF A C := by
  cases A with
  | none =>
    cases B with
    | none => cases C <;> exact ⟨rfl, rfl⟩
    | some y =>
      cases C with
      | none => simp [diffF, fitJ, joinF]
      | some z =>
        have hk := h2 y z rfl rfl
        simp only [diffF]
        by_cases e : y.f1 = z.f1
        · rw [if_pos e]; simp [fitJ, joinF, e, hk]
        · rw [if_neg e]; simp [fitJ, joinF, hk]
  | some x =>
    cases B with
    | none =>
      cases C with
      | none => simp [diffF, fitJ, joinF]
      | some z =>
        have hk := h3 x z rfl rfl
        simp only [diffF, fitJ, joinF]
        by_cases e : x.f1 = z.f1
        · simp [e]
        · simp [e, hk]
    | some y =>
      have hk := h1 x y rfl rfl
      cases C with
      | none =>
        simp only [diffF]
        by_cases e : x.f1 = y.f1
        · rw [if_pos e]; simp [fitJ, joinF, e, hk]
        · rw [if_neg e]; simp [fitJ, joinF, hk]
      | some z =>
        have hk2 := h2 y z rfl rfl
        simp only [diffF]
        by_cases e : x.f1 = y.f1
        · by_cases e2 : y.f1 = z.f1
          · rw [if_pos e, if_pos e2, if_pos (e.trans e2)]; exact ⟨rfl, rfl⟩
          · rw [if_pos e, if_neg e2, if_neg (by rw [e]; exact e2)]; simp [fitJ, joinF, e]
        · by_cases e2 : y.f1 = z.f1
          · rw [if_neg e, if_pos e2, if_neg (by rw [← e2]; exact e)]; simp [fitJ, joinF, e2, hk2]
          · rw [if_neg e, if_neg e2]
            by_cases e3 : x.f1 = z.f1
            · rw [if_pos e3]; simp [fitJ, joinF, e3]
            · rw [if_neg e3]; simp [fitJ, joinF, e3, hk2]
theorem same_key {k : ByteArray} {a b : List It} : ∀ x y, get ik k a = some x → get ik k b = some y → x.f0 = y.f0 := by
  intro x y hx hy
  have h1 := (get_key hx).1
  have h2 := (get_key hy).1
  exact h1.trans h2.symm
/-- Diff, applied, makes the others. -/
theorem back {a b : List It} (ha : Rises ik a) (hb : Rises ik b) : fitsA a (diffL a b) = true ∧ applyL a (diffL a b) = b := by
  have hd := diff_rises ha hb
  refine ⟨(fitsA_iff ha hd).2 fun k => by rw [diff_get ha hb]; exact at_back _ _, ext (apply_rises ha hd) hb fun k => ?_⟩
  rw [apply_get ha hd, diff_get ha hb]
  exact at_back2 _ _ same_key
theorem turn_get (k : ByteArray) : ∀ l : List Ch, get ck k (l.map turn) = (get ck k l).map turn
  | [] => rfl
  | x :: r => by
    show (if ck x = k then some (turn x) else get ck k (r.map turn)) = (if ck x = k then some x else get ck k r).map turn
    rw [turn_get k r]
    by_cases e : ck x = k
    · rw [if_pos e, if_pos e]; rfl
    · rw [if_neg e, if_neg e]
theorem turn_rises {l : List Ch} (h : Rises ck l) : Rises ck (l.map turn) := by
  unfold Rises at h ⊢
  rw [List.pairwise_map]
  exact h
theorem turned {a b : List It} (ha : Rises ik a) (hb : Rises ik b) : (diffL a b).map turn = diffL b a := by
  refine ext (turn_rises (diff_rises ha hb)) (diff_rises hb ha) fun k => ?_
  rw [turn_get, diff_get ha hb, diff_get hb ha]
  exact at_turn _ _ same_key
theorem through {a b c : List It} (ha : Rises ik a) (hb : Rises ik b) (hc : Rises ik c) : fitsJ (diffL a b) (diffL b c) = true ∧ joinL (diffL a b) (diffL b c) = diffL a c := by
  have h1 := diff_rises ha hb
  have h2 := diff_rises hb hc
  have key := fun k => at_join (get ik k a) (get ik k b) (get ik k c) same_key same_key same_key
  refine ⟨(fitsJ_iff h1 h2).2 fun k => by rw [diff_get ha hb, diff_get hb hc]; exact (key k).1, ext (join_rises h1 h2) (diff_rises ha hc) fun k => ?_⟩
  rw [join_get h1 h2, diff_get ha hb, diff_get hb hc, diff_get ha hc]
  exact (key k).2
/-- What becomes of items is right. -/
theorem at_right (A B : Option It) (c : Ch) (h : diffF A B = some c) : rightC c = true := by
  cases A with
  | none =>
    cases B with
    | none => cases h
    | some y => cases h; rfl
  | some x =>
    cases B with
    | none => cases h; rfl
    | some y =>
      simp only [diffF] at h
      by_cases e : x.f1 = y.f1
      · rw [if_pos e] at h; cases h
      · rw [if_neg e] at h; cases h; simp [rightC, e]
theorem diff_right (a b : List It) : ∀ c ∈ diffL a b, rightC c = true := by
  intro c hc
  obtain ⟨p, _, h⟩ := List.mem_filterMap.1 hc
  exact at_right _ _ c h
theorem turn_right (c : Ch) : rightC (turn c) = rightC c := by
  obtain ⟨k, h, n, o, w⟩ := c
  cases h <;> cases n
  · rfl
  · rfl
  · rfl
  · show decide (w ≠ o) = decide (o ≠ w)
    rw [Bool.eq_iff_iff, decide_eq_true_iff, decide_eq_true_iff]
    exact ⟨fun h e => h e.symm, fun h e => h e.symm⟩
/-- Changes with no key in common may be applied in either order. -/
theorem either {l : List It} {c d : List Ch} (hl : Rises ik l) (hc : Rises ck c) (hd : Rises ck d) (hk : ∀ k, get ck k c = none ∨ get ck k d = none) (h1 : fitsA l c = true) (h2 : fitsA l d = true) :
    fitsA (applyL l c) d = true ∧ fitsA (applyL l d) c = true ∧ applyL (applyL l c) d = applyL (applyL l d) c := by
  have a1 := apply_rises hl hc
  have a2 := apply_rises hl hd
  rw [fitsA_iff hl hc] at h1
  rw [fitsA_iff hl hd] at h2
  refine ⟨(fitsA_iff a1 hd).2 fun k => ?_, (fitsA_iff a2 hc).2 fun k => ?_, ext (apply_rises a1 hd) (apply_rises a2 hc) fun k => ?_⟩
  · rw [apply_get hl hc]
    rcases hk k with h | h
    · rw [h]; exact h2 k
    · rw [h]; cases (applyF (get ik k l) (get ck k c)) <;> rfl
  · rw [apply_get hl hd]
    rcases hk k with h | h
    · rw [h]; cases (applyF (get ik k l) (get ck k d)) <;> rfl
    · rw [h]; exact h1 k
  · rw [apply_get a1 hd, apply_get a2 hc, apply_get hl hc, apply_get hl hd]
    rcases hk k with h | h
    · rw [h]; cases get ck k d <;> rfl
    · rw [h]; cases get ck k c <;> rfl
end Go.Proofs.Ytcocddpknkklhaa.DeltaP
