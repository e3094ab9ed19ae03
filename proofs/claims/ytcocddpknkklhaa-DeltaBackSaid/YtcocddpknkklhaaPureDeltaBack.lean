import Derived.Test.YtcocddpknkklhaaPAx14
import Derived.Test.YtcocddpknkklhaaDeltaT
namespace Go.Proofs.Ytcocddpknkklhaa.Pure
open Go.RowKit Go.Proofs.Ytcocddpknkklhaa.PA Go.Proofs.YtcocddpknkklhaaW.PrintWords Go.Proofs.YtcocddpknkklhaaW.PrintLast
open Go.Proofs.Ytcocddpknkklhaa.DeltaP Go.Proofs.Ytcocddpknkklhaa.MergeP
set_option linter.unusedVariables false
theorem back_true (k : Nat) (a b : List It) : coppicelaw18_DeltaBack.j0 (k + 1) a b true = some true := by
  simp only [coppicelaw18_DeltaBack.j0, if_true]
theorem back_false (a b : List It) (ha : a.length ≤ 300) (hb : b.length ≤ 300) : coppicelaw18_DeltaBack.j0 2000 a b false = some true := by
  simp only [coppicelaw18_DeltaBack.j0]
  rw [if_neg (by decide), own_f (l := a) (by omega), Option.bind_some, own_f (l := b) (by omega), Option.bind_some]
  by_cases h1 : (adj ik a && adj ik b) = true
  · have hd := diff_f (a := a) (b := b) (by omega) (by omega)
    rw [if_pos h1] at hd
    rw [Bool.and_eq_true] at h1
    have ra := (adj_iff a).1 h1.1
    have rb := (adj_iff b).1 h1.2
    have l1 := diffL_len a b
    have l2 := diffL_len b a
    have r1 := rightL_mk (diff_rises ra rb) (diff_right a b)
    have r2 := rightL_mk (diff_rises rb ra) (diff_right b a)
    obtain ⟨b1, b2⟩ := back ra rb
    obtain ⟨b3, b4⟩ := back rb ra
    have ht : delta_Turn.f (diffL a b) = some (diffL b a, 0) := by rw [turn_f (by omega), if_pos r1, turned ra rb]
    have ha1 : delta_Apply.f a (diffL a b) = some (b, 0) := by rw [apply_f (by omega) (by omega), if_pos (by rw [h1.1, r1]; rfl), if_pos b1, b2]
    have ha2 : delta_Apply.f b (diffL b a) = some (a, 0) := by rw [apply_f (by omega) (by omega), if_pos (by rw [h1.2, r2]; rfl), if_pos b3, b4]
    have hd2 : delta_Diff.f b a = some (diffL b a, 0) := by rw [diff_f (by omega) (by omega), if_pos (by rw [h1.1, h1.2]; rfl)]
    rw [hd, Option.bind_some, if_pos rfl, Option.bind_some, ha1, Option.bind_some, ht, Option.bind_some, Option.bind_some, ha2, Option.bind_some, Option.bind_some, Option.bind_some, hd2, Option.bind_some]
    rw [if_pos rfl, if_pos rfl, if_pos rfl, if_pos rfl, sameI_f b (by omega) _ (by omega), Option.bind_some, if_pos rfl, sameI_f a (by omega) _ (by omega), Option.bind_some, if_pos rfl, sameC_f (diffL b a) (by omega) _ (by omega), Option.bind_some]
  · have hd := diff_f (a := a) (b := b) (by omega) (by omega)
    rw [if_neg h1] at hd
    rw [hd, Option.bind_some]
    rfl
theorem DeltaBack : coppicelaw18_DeltaBack.Pure := by
  intro a b _ _
  refine ⟨2000, ?_⟩
  unfold coppicelaw18_DeltaBack.f
  obtain ⟨g1, e1, h1⟩ := greatI_f a 2000 (by omega)
  obtain ⟨g2, e2, h2⟩ := greatI_f b 2000 (by omega)
  rw [awake_f, Option.bind_some, if_pos rfl, e1, Option.bind_some]
  cases g1 with
  | true => rw [if_pos rfl]; exact back_true _ _ _
  | false =>
    rw [if_neg (by decide), e2, Option.bind_some]
    cases g2 with
    | true => exact back_true _ _ _
    | false => exact back_false a b (h1 rfl) (h2 rfl)
end Go.Proofs.Ytcocddpknkklhaa.Pure
