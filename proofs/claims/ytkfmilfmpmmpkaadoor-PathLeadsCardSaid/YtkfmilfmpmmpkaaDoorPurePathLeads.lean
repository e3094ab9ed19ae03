/- Paths: a path that is no longer than a target leads from the root to its names; a target leads to names and two dots alone. -/
import Derived.Test.YtkfmilfmpmmpkaaDoorPAx11
import Derived.Test.YtkfmilfmpmmpkaaDoorPathA
import Derived.Test.YtkfmilfmpmmpkaaDoorPathE
import Derived.Test.YtkfmilfmpmmpkaaDoorPathL
namespace Go.Proofs.YtkfmilfmpmmpkaaDoor.Pure
open Go.RowKit Go.Proofs.YtkfmilfmpmmpkaaDoor.PA Go.Proofs.YtkfmilfmpmmpkaaDoorW.PrintWords Go.Proofs.YtkfmilfmpmmpkaaDoorW.PrintLast
open Go.Proofs.YtkfmilfmpmmpkaaDoor.Plain Go.Proofs.YtkfmilfmpmmpkaaDoor.PathP Go.Proofs.YtkfmilfmpmmpkaaDoor.TargetP
theorem leads_l0 (s : ByteArray) (l : List ByteArray) (e : Int) (hl : l.length ≤ 1000) (ha : l.all stepB = true) (hend : (0 < l.length ∧ e = 0 ∧ tgt s = true) ∨ (l.length = 0 ∧ e ≠ 0)) : ∀ (m k i : Nat), l.length = i + m → m < k →
    coppicelaw12_PathLeads.l0 k s l false e (i : Int) = some true
  | 0, k, i, hz, hk => by
    obtain ⟨k, rfl⟩ : ∃ q, k = q + 1 := ⟨k - 1, by omega⟩
    simp only [coppicelaw12_PathLeads.l0]
    rw [if_neg (by omega), if_neg (by decide)]
    rcases hend with ⟨h1, h2, h3⟩ | ⟨h1, h2⟩
    · rw [if_pos (by omega), if_pos h2, target_ok, h3]; rfl
    · rw [if_neg (by omega), if_neg h2]
  | m + 1, k, i, hz, hk => by
    obtain ⟨k, rfl⟩ : ∃ q, k = q + 1 := ⟨k - 1, by omega⟩
    simp only [coppicelaw12_PathLeads.l0]
    have hs : stepB (rdOf ByteArray.empty l (i : Int)) = true := by
      rw [rd_get l i (by omega)]
      exact List.all_eq_true.1 ha _ (List.getElem_mem _)
    rw [if_pos (by omega), if_pos (by omega), name_f, Option.bind_some, wrapn (by omega), leads_l0 s l e hl ha hend m k (i + 1) (by omega) (by omega)]
    cases hn : nameB (rdOf ByteArray.empty l (i : Int)) with
    | true => rw [if_pos rfl]
    | false =>
      unfold stepB at hs
      rw [hn, Bool.or_false, decide_eq_true_eq] at hs
      rw [if_neg (by decide), if_pos ((toList_iff _ _).2 hs)]
theorem tgt_path (s : ByteArray) (h : (splitR s).2 = 0) (hz : s.size ≤ 100) : tgt s = true ∧ s.data.toList.head? = some 47 := by
  have key : ∀ t, s.data.toList = 47 :: t → 0 ∉ t → tgt s = true ∧ s.data.toList.head? = some 47 := by
    intro t ht h0
    have hs : s.size = t.length + 1 := by rw [← lenL, ht]; rfl
    refine ⟨?_, by rw [ht]; rfl⟩
    unfold tgt hasZero
    rw [decide_eq_true (by omega), decide_eq_true hz, ht]
    have : (47 :: t).contains 0 = false := by
      cases hc : (47 :: t).contains (0 : UInt8) with
      | false => rfl
      | true =>
        rw [List.contains_iff_mem] at hc
        rcases List.mem_cons.1 hc with h | h
        · cases h
        · exact absurd h h0
    rw [this]; rfl
  rcases splitR_ok s h with ⟨h1, _⟩ | ⟨t, h1, _, _, _, _, h2⟩
  · exact key [] (by rw [h1]; rfl) (by simp)
  · exact key t h1 (fun hm => cut_nonzero t ⟨#[]⟩ h2 0 hm rfl)
theorem PathLeads : coppicelaw12_PathLeads.Pure := by
  intro s hs
  refine ⟨10000, ?_⟩
  unfold coppicelaw12_PathLeads.f
  rw [awake_ok 10000 (by omega), Option.bind_some, if_pos rfl]
  by_cases hb : (s.size : Int) > 4096
  · rw [if_pos hb]
  · rw [if_neg hb, psplit_f s (by omega) 10000 (by omega), Option.bind_some, plead_f s (by omega) 10000 (by omega), Option.bind_some]
    have main : ((splitR s).2 = 0 → ¬ s.size ≤ 100) → coppicelaw12_PathLeads.j0 10000 s (splitR s).1 (leadR s).1 (leadR s).2.1 (leadR s).2.2 false = some true := by
      intro hn
      have e1 : (10000 : Nat) = 9999 + 1 := rfl
      rw [e1]
      simp only [coppicelaw12_PathLeads.j0]
      rw [if_neg (by decide)]
      unfold leadR
      by_cases ht : tgt s = true
      · have hz : s.size ≤ 100 := by
          unfold tgt at ht
          simp only [Bool.and_eq_true, decide_eq_true_eq] at ht
          exact ht.2.1
        rw [if_pos ht]
        by_cases hh : s.data.toList.head? = some 47
        · rw [if_pos hh]
          have he : splitR s = ([], 120) := by
            rcases splitR_cases s with h | h
            · exact absurd hz (hn h)
            · exact h
          rw [he]
          exact leads_l0 s [] 120 (by decide) rfl (.inr ⟨rfl, by decide⟩) 0 9999 0 rfl (by omega)
        · rw [if_neg hh]
          by_cases ha : (cutS s).length ≤ 32 ∧ (cutS s).all stepB = true
          · rw [if_pos ha]
            obtain ⟨x, r, hx⟩ := cutS_ne s
            exact leads_l0 s (cutS s) 0 (by omega) ha.2 (.inl ⟨by rw [hx]; simp, rfl, ht⟩) (cutS s).length 9999 0 (by omega) (by omega)
          · rw [if_neg ha]
            exact leads_l0 s [] 120 (by decide) rfl (.inr ⟨rfl, by decide⟩) 0 9999 0 rfl (by omega)
      · rw [if_neg ht]
        exact leads_l0 s [] 120 (by decide) rfl (.inr ⟨rfl, by decide⟩) 0 9999 0 rfl (by omega)
    by_cases he : (splitR s).2 = 0
    · rw [if_pos he]
      by_cases hz : s.size ≤ 100
      · rw [decide_eq_true (by omega)]
        obtain ⟨h1, h2⟩ := tgt_path s he hz
        have hl : leadR s = ((splitR s).1, (splitR s).2 == 0, (splitR s).2) := by
          unfold leadR
          rw [if_pos h1, if_pos h2]
        rw [hl, he]
        have e1 : (10000 : Nat) = 9999 + 1 := rfl
        rw [e1]
        simp only [coppicelaw12_PathLeads.j0]
        have hlen : (splitR s).1.length ≤ 32 := by
          rcases splitR_ok s he with ⟨_, h⟩ | ⟨t, _, _, _, h, h3, _⟩
          · rw [h]; decide
          · rw [h]; exact h3
        rw [if_pos trivial, if_pos trivial, if_pos (by rfl), same_f _ _ (by omega) 9999 (by omega), decide_eq_true rfl]
        rfl
      · rw [decide_eq_false (by omega)]
        exact main (fun _ => hz)
    · rw [if_neg he]
      exact main (fun h => absurd h he)
end Go.Proofs.YtkfmilfmpmmpkaaDoor.Pure
