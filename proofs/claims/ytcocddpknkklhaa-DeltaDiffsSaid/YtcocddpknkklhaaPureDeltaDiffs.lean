import Derived.Test.YtcocddpknkklhaaPAx22
import Derived.Test.YtcocddpknkklhaaDeltaU
namespace Go.Proofs.Ytcocddpknkklhaa.Pure
open Go.RowKit Go.Proofs.Ytcocddpknkklhaa.PA Go.Proofs.YtcocddpknkklhaaW.PrintWords Go.Proofs.YtcocddpknkklhaaW.PrintLast
open Go.Proofs.Ytcocddpknkklhaa.DeltaP Go.Proofs.Ytcocddpknkklhaa.MergeP
set_option linter.unusedVariables false
theorem diffs_true (k : Nat) (a b : List It) (c : List Ch) : coppicelaw18_DeltaDiffs.j0 (k + 1) a b c true = some true := by
  simp only [coppicelaw18_DeltaDiffs.j0, if_true]
theorem check_f {c : List Ch} (hc : c.length ≤ 1000000000) : delta_Check.f c = some (if rightL c = true then 0 else 21) := by
  rw [← check_eq]
  exact if_pos hc
theorem diffs_false (a b : List It) (c : List Ch) (ha : a.length ≤ 300) (hb : b.length ≤ 300) (hc : c.length ≤ 300) : coppicelaw18_DeltaDiffs.j0 4000 a b c false = some true := by
  have l1 := diffL_len a b
  have l2 := fits_len a c
  simp only [coppicelaw18_DeltaDiffs.j0]
  rw [if_neg (by decide), own_f (by omega), Option.bind_some, own_f (by omega), Option.bind_some, diff_f (by omega) (by omega), Option.bind_some, diff18_f a b ha hb _ (by omega), Option.bind_some, Option.bind_some, mine_f (by omega), Option.bind_some, apply_f (by omega) (by omega), Option.bind_some, apply18_f a c ha hc _ (by omega), Option.bind_some, if_pos rfl]
  obtain ⟨X, hX⟩ : ∃ X : List Ch × Int, (if (adj ik a && adj ik b) = true then (diffL a b, (0 : Int)) else ([], 21)) = X := ⟨_, rfl⟩
  obtain ⟨Y, hY⟩ : ∃ Y : List It × Int, (if (adj ik a && rightL c) = true then (if fitsA a c = true then (applyL a c, (0 : Int)) else ([], 180)) else ([], 21)) = Y := ⟨_, rfl⟩
  have lX : X.1.length ≤ 1000 := by
    rw [← hX]
    split
    · show (diffL a b).length ≤ 1000; omega
    · exact Nat.zero_le _
  have lY : Y.1.length ≤ 1000 := by
    rw [← hY]
    split
    · split
      · show (applyL a c).length ≤ 1000; omega
      · exact Nat.zero_le _
    · exact Nat.zero_le _
  rw [hX, hY]
  have s1 := sameC_f X.1 (by omega) 3999 (by omega)
  have s2 := sameI_f Y.1 (by omega) 3999 (by omega)
  rw [s1, Option.bind_some, if_pos rfl, if_pos rfl, s2, Option.bind_some, if_pos rfl, Option.bind_some, check_f (by omega), Option.bind_some, right_f (c := c) (by omega), Option.bind_some]
  cases rightL c <;> rfl
theorem DeltaDiffs : coppicelaw18_DeltaDiffs.Pure := by
  intro a b c _ _ _
  refine ⟨4000, ?_⟩
  unfold coppicelaw18_DeltaDiffs.f
  obtain ⟨g1, e1, h1⟩ := greatI_f a 4000 (by omega)
  obtain ⟨g2, e2, h2⟩ := greatI_f b 4000 (by omega)
  obtain ⟨g3, e3, h3⟩ := greatC_f c 4000 (by omega)
  rw [awake_f, Option.bind_some, if_pos rfl, e1, Option.bind_some]
  cases g1 with
  | true => rw [if_pos rfl]; exact diffs_true _ _ _ _
  | false =>
    rw [if_neg (by decide), e2, Option.bind_some]
    cases g2 with
    | true => rw [if_pos rfl]; exact diffs_true _ _ _ _
    | false =>
      rw [if_neg (by decide), e3, Option.bind_some]
      cases g3 with
      | true => exact diffs_true _ _ _ _
      | false => exact diffs_false a b c (h1 rfl) (h2 rfl) (h3 rfl)
end Go.Proofs.Ytcocddpknkklhaa.Pure
