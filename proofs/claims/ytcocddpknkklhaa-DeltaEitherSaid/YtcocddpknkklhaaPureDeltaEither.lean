import Derived.Test.YtcocddpknkklhaaPAx20
import Derived.Test.YtcocddpknkklhaaDeltaV
namespace Go.Proofs.Ytcocddpknkklhaa.Pure
open Go.RowKit Go.Proofs.Ytcocddpknkklhaa.PA Go.Proofs.YtcocddpknkklhaaW.PrintWords Go.Proofs.YtcocddpknkklhaaW.PrintLast
open Go.Proofs.Ytcocddpknkklhaa.DeltaP Go.Proofs.Ytcocddpknkklhaa.MergeP
set_option linter.unusedVariables false
theorem either_true (k : Nat) (l : List It) (c d : List Ch) : coppicelaw18_DeltaEither.j0 (k + 1) l c d true = some true := by
  simp only [coppicelaw18_DeltaEither.j0, if_true]
theorem either_t1 (k : Nat) (c d : List Ch) (x y : List It) : coppicelaw18_DeltaEither.j1 (k + 1) c d x y true = some true := by
  simp only [coppicelaw18_DeltaEither.j1, if_true]
theorem applied (l : List It) (c : List Ch) (hl : l.length ≤ 1000) (hc : c.length ≤ 1000) : ∃ X : List It × Int, delta_Apply.f l c = some X ∧ (X.2 = 0 → adj ik l = true ∧ fitsA l c = true ∧ X.1 = applyL l c) := by
  rw [apply_f (by omega) (by omega)]
  refine ⟨_, rfl, fun h => ?_⟩
  by_cases h1 : (adj ik l && rightL c) = true
  · rw [if_pos h1] at h ⊢
    by_cases h2 : fitsA l c = true
    · rw [if_pos h2] at h ⊢
      rw [Bool.and_eq_true] at h1
      exact ⟨h1.1, h2, rfl⟩
    · rw [if_neg h2] at h; cases h
  · rw [if_neg h1] at h; cases h
theorem apply_len (l : List It) (c : List Ch) : (applyL l c).length ≤ l.length + c.length := Nat.le_trans made_len (pairs_len _ l c (Nat.le_refl _))
theorem either_false (l : List It) (c d : List Ch) (hl : l.length ≤ 300) (hc : c.length ≤ 300) (hd : d.length ≤ 300) (zc : ∀ x ∈ c, x.f0.size ≤ 400) (zd : ∀ x ∈ d, x.f0.size ≤ 400) : coppicelaw18_DeltaEither.j0 3000 l c d false = some true := by
  obtain ⟨b, e, ha, hb⟩ := apart_f 2999 (by omega) c d (by omega) (by omega) (fun x hx => by have := zc x hx; omega) (fun x hx => by have := zd x hx; omega)
  obtain ⟨X, hX, xX⟩ := applied l c (by omega) (by omega)
  obtain ⟨Y, hY, xY⟩ := applied l d (by omega) (by omega)
  simp only [coppicelaw18_DeltaEither.j0]
  rw [if_neg (by decide), mine_f (l := c) (by omega), Option.bind_some, mine_f (l := d) (by omega), Option.bind_some, ha, Option.bind_some, own_f (l := l) (by omega), Option.bind_some, Option.bind_some, hX, Option.bind_some, Option.bind_some, Option.bind_some, hY, Option.bind_some]
  by_cases h1 : b = true
  · rw [if_pos h1]
    by_cases h2 : e = 0
    · rw [if_pos h2]
      by_cases h3 : X.2 = 0
      · rw [if_pos h3]
        by_cases h4 : Y.2 = 0
        · have h4' : (Y.2 != 0) = false := bne_eq_false_iff_eq.mpr h4
          rw [h4']
          obtain ⟨rc, rd, hk⟩ := hb h1
          obtain ⟨a1, f1, e1⟩ := xX h3
          obtain ⟨_, f2, e2⟩ := xY h4
          have rl := (adj_iff l).1 a1
          have kc := rightL_rises rc
          have kd := rightL_rises rd
          obtain ⟨g1, g2, g3⟩ := either rl kc kd hk f1 f2
          have l1 := apply_len l c
          have l2 := apply_len l d
          have l3 := apply_len (applyL l c) d
          have q1 : delta_Apply.f (applyL l c) d = some (applyL (applyL l c) d, 0) := by
            rw [apply_f (by omega) (by omega), if_pos (by rw [(adj_iff _).2 (apply_rises rl kc), rd]; rfl), if_pos g1]
          have q2 : delta_Apply.f (applyL l d) c = some (applyL (applyL l c) d, 0) := by
            rw [apply_f (by omega) (by omega), if_pos (by rw [(adj_iff _).2 (apply_rises rl kd), rc]; rfl), if_pos g2, g3]
          simp only [coppicelaw18_DeltaEither.j1]
          rw [if_neg (by decide), mine_f (l := d) (by omega), Option.bind_some, e1, q1, Option.bind_some, mine_f (l := c) (by omega), Option.bind_some, e2, q2, Option.bind_some, if_pos rfl, if_pos rfl, sameI_f (applyL (applyL l c) d) (by omega) _ (by omega), Option.bind_some]
        · have h4' : (Y.2 != 0) = true := bne_iff_ne.mpr h4
          rw [h4']; exact either_t1 2998 _ _ _ _
      · rw [if_neg h3]; exact either_t1 2998 _ _ _ _
    · rw [if_neg h2]; exact either_t1 2998 _ _ _ _
  · rw [if_neg h1]; exact either_t1 2998 _ _ _ _
theorem DeltaEither : coppicelaw18_DeltaEither.Pure := by
  intro l c d _ _ _
  refine ⟨3000, ?_⟩
  unfold coppicelaw18_DeltaEither.f
  obtain ⟨g1, e1, h1⟩ := greatI_f l 3000 (by omega)
  obtain ⟨g2, e2, h2⟩ := greatC_f c 3000 (by omega)
  obtain ⟨g3, e3, h3⟩ := greatC_f d 3000 (by omega)
  rw [awake_f, Option.bind_some, if_pos rfl, e1, Option.bind_some]
  cases g1 with
  | true => rw [if_pos rfl]; exact either_true _ _ _ _
  | false =>
    rw [if_neg (by decide), e2, Option.bind_some]
    cases g2 with
    | true => rw [if_pos rfl]; exact either_true _ _ _ _
    | false =>
      rw [if_neg (by decide), e3, Option.bind_some]
      cases g3 with
      | true => exact either_true _ _ _ _
      | false => exact either_false l c d (h1 rfl) (h2 rfl).1 (h3 rfl).1 (h2 rfl).2 (h3 rfl).2
end Go.Proofs.Ytcocddpknkklhaa.Pure
