/- Paths: what is split is joined to the same path; a loose path that is a path has the same names. -/
import Derived.Test.YtkfmilfmpmmpkaaDoorPBx24
import Derived.Test.YtkfmilfmpmmpkaaDoorPathJ
import Derived.Test.YtkfmilfmpmmpkaaDoorPathLo
import Derived.Test.YtkfmilfmpmmpkaaDoorPathE
namespace Go.Proofs.YtkfmilfmpmmpkaaDoor.Pure
open Go.RowKit Go.Proofs.YtkfmilfmpmmpkaaDoor.PB Go.Proofs.YtkfmilfmpmmpkaaDoorW.PrintWords Go.Proofs.YtkfmilfmpmmpkaaDoorW.PrintLast
open Go.Proofs.YtkfmilfmpmmpkaaDoor.Plain Go.Proofs.YtkfmilfmpmmpkaaDoor.PathP
theorem slashed_cut (l : List UInt8) : ∀ one : ByteArray, slashed (cutFrom one l) = 47 :: one.data.toList ++ l := by
  induction l with
  | nil => intro one; rw [cutFrom, slashed_cons]; rfl
  | cons c l ih =>
    intro one
    simp only [cutFrom]
    split
    · next h => subst h; rw [slashed_cons, ih]; rfl
    · rw [ih, append_list]; simp
theorem joined_split (s : ByteArray) (h : (splitR s).2 = 0) : joined (splitR s).1 = s ∧ s.size ≤ 1023 ∧ looseR s = splitR s := by
  rcases splitR_ok s h with ⟨h1, h2⟩ | ⟨t, h1, h2, h3, h4, h5, h6⟩
  · rw [h2, h1]
    refine ⟨rfl, by decide, ?_⟩
    unfold looseR pathNames
    rw [if_pos rfl]
  · rw [h4]
    obtain ⟨x, r, hx⟩ := cutS_ne (ofL t)
    refine ⟨?_, h3, ?_⟩
    · unfold joined
      rw [if_neg (by rw [hx]; simp)]
      apply ext_list
      rw [toList_ofL, h1]
      unfold cutS
      rw [slashed_cut, toList_ofL]
      rfl
    · unfold looseR pathNames
      have hne : ¬ s = ofL [47] := by
        intro e
        rw [e] at h1
        injection h1 with _ h1
        exact h2 h1.symm
      rw [hx] at h5 h6
      rw [List.all_cons, Bool.and_eq_true] at h6
      rw [if_neg hne, h1, if_pos ⟨rfl, by omega⟩, List.tail_cons, hx, if_pos ⟨h5, by rw [List.head?_cons]; show looseB x = true; unfold looseB; rw [h6.1, Bool.or_true], h6.2⟩]
theorem PathBack : coppicelaw12_PathBack.Pure := by
  intro s hs
  refine ⟨2000000, ?_⟩
  unfold coppicelaw12_PathBack.f
  rw [awake_ok 2000000 (by omega), Option.bind_some, if_pos rfl]
  by_cases hb : (s.size : Int) > 4096
  · rw [if_pos hb]
  · rw [if_neg hb, psplit_f s (by omega) _ (by omega), Option.bind_some]
    by_cases he : (splitR s).2 = 0
    · obtain ⟨h1, h2, h3⟩ := joined_split s he
      have hn := splitR_names s he
      have hl := splitR_len s
      have hx : ∀ x ∈ (splitR s).1, x.size ≤ 2000 := by
        intro x hx
        have := List.all_eq_true.1 hn x hx
        rw [nameB_eq] at this
        simp only [Bool.and_eq_true, decide_eq_true_eq] at this
        have h := this.2.2.1
        rw [lenL] at h
        omega
      rw [if_pos he, pjoin_f _ (by omega) hx _ (by omega), Option.bind_some, ploose_f s (by omega) _ (by omega), Option.bind_some, joinR_yes _ hn ⟨hl, by rw [h1]; exact h2⟩, h1, h3]
      simp only
      first | rw [if_pos trivial, if_pos trivial, if_pos he] | rw [if_pos trivial, if_pos he] | rw [if_pos rfl, if_pos rfl, if_pos he]
      rw [same_f _ _ (by omega) _ (by omega), decide_eq_true rfl, Option.bind_some]
    · rw [if_neg he]
      rcases splitR_cases s with h | h
      · exact absurd h he
      · rw [h]; rfl
end Go.Proofs.YtkfmilfmpmmpkaaDoor.Pure
