import Derived.Test.YtcocddpknkklhaaPAx11
import Derived.Test.YtcocddpknkklhaaDeltaT
namespace Go.Proofs.Ytcocddpknkklhaa.Pure
open Go.RowKit Go.Proofs.Ytcocddpknkklhaa.PA Go.Proofs.YtcocddpknkklhaaW.PrintWords Go.Proofs.YtcocddpknkklhaaW.PrintLast
open Go.Proofs.Ytcocddpknkklhaa.DeltaP Go.Proofs.Ytcocddpknkklhaa.MergeP
set_option linter.unusedVariables false
theorem true_j0 (k : Nat) (a b c : List It) : coppicelaw18_DeltaThrough.j0 (k + 1) a b c true = some true := by
  simp only [coppicelaw18_DeltaThrough.j0, if_true]
theorem true_j1 (k : Nat) (x y z : List Ch) : coppicelaw18_DeltaThrough.j1 (k + 1) x y z true = some true := by
  simp only [coppicelaw18_DeltaThrough.j1, if_true]
theorem false_j0 (a b c : List It) (ha : a.length ≤ 300) (hb : b.length ≤ 300) (hc : c.length ≤ 300) : coppicelaw18_DeltaThrough.j0 2000 a b c false = some true := by
  simp only [coppicelaw18_DeltaThrough.j0]
  rw [if_neg (by decide), own_f (l := a) (by omega), Option.bind_some, own_f (l := b) (by omega), Option.bind_some, diff_f (a := a) (b := b) (by omega) (by omega), Option.bind_some, Option.bind_some, own_f (l := c) (by omega), Option.bind_some, diff_f (a := b) (b := c) (by omega) (by omega), Option.bind_some, Option.bind_some, Option.bind_some, diff_f (a := a) (b := c) (by omega) (by omega), Option.bind_some]
  by_cases h1 : (adj ik a && adj ik b) = true
  · rw [if_pos h1, if_pos rfl]
    by_cases h2 : (adj ik b && adj ik c) = true
    · rw [if_pos h2, if_pos rfl]
      rw [Bool.and_eq_true] at h1 h2
      have h3 : (adj ik a && adj ik c) = true := by rw [h1.1, h2.2]; rfl
      rw [if_pos h3]
      have ra := (adj_iff a).1 h1.1
      have rb := (adj_iff b).1 h1.2
      have rc := (adj_iff c).1 h2.2
      have l1 := diffL_len a b
      have l2 := diffL_len b c
      have l3 := diffL_len a c
      obtain ⟨t1, t2⟩ := through ra rb rc
      have r1 := rightL_mk (diff_rises ra rb) (diff_right a b)
      have r2 := rightL_mk (diff_rises rb rc) (diff_right b c)
      simp only [coppicelaw18_DeltaThrough.j1]
      have hj : delta_Join.f (diffL a b) (diffL b c) = some (diffL a c, 0) := by rw [join_f (by omega) (by omega), if_pos (by rw [r1, r2]; rfl), if_pos t1, t2]
      rw [if_neg (by decide), hj, Option.bind_some, if_pos rfl, sameC_f (diffL a c) (by omega) _ (by omega), Option.bind_some]
    · rw [if_neg h2, if_neg (show ¬ (([], 21) : List Ch × Int).2 = 0 by decide)]; exact true_j1 1998 _ _ _
  · rw [if_neg h1, if_neg (show ¬ (([], 21) : List Ch × Int).2 = 0 by decide)]; exact true_j1 1998 _ _ _
theorem DeltaThrough : coppicelaw18_DeltaThrough.Pure := by
  intro a b c _ _ _
  refine ⟨2000, ?_⟩
  unfold coppicelaw18_DeltaThrough.f
  obtain ⟨g1, e1, h1⟩ := greatI_f a 2000 (by omega)
  obtain ⟨g2, e2, h2⟩ := greatI_f b 2000 (by omega)
  obtain ⟨g3, e3, h3⟩ := greatI_f c 2000 (by omega)
  rw [awake_f, Option.bind_some, if_pos rfl, e1, Option.bind_some]
  cases g1 with
  | true => rw [if_pos rfl]; exact true_j0 _ _ _ _
  | false =>
    rw [if_neg (by decide), e2, Option.bind_some]
    cases g2 with
    | true => rw [if_pos rfl]; exact true_j0 _ _ _ _
    | false =>
      rw [if_neg (by decide), e3, Option.bind_some]
      cases g3 with
      | true => exact true_j0 _ _ _ _
      | false => exact false_j0 a b c (h1 rfl) (h2 rfl) (h3 rfl)
end Go.Proofs.Ytcocddpknkklhaa.Pure
