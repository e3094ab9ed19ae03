/- Paths: each number has one orphan's name, and each text is one just where the document says so. -/
import Derived.Test.YtkfmilfmpmmpkaaDoorPBx11
import Derived.Test.YtkfmilfmpmmpkaaDoorPathQ
import Derived.Test.YtkfmilfmpmmpkaaDoorPathO
import Derived.Test.YtkfmilfmpmmpkaaDoorPathA
namespace Go.Proofs.YtkfmilfmpmmpkaaDoor.Pure
open Go.RowKit Go.Proofs.YtkfmilfmpmmpkaaDoor.PB Go.Proofs.YtkfmilfmpmmpkaaDoorW.PrintWords Go.Proofs.YtkfmilfmpmmpkaaDoorW.PrintLast
open Go.Proofs.YtkfmilfmpmmpkaaDoor.Plain Go.Proofs.YtkfmilfmpmmpkaaDoor.PathP
theorem porph (s : ByteArray) (hs : s.size ≤ 1000000) : path_OrphanOf.f s = some (orphanV s) := if_pos (by omega)
theorem orph_back (s : ByteArray) : (orphanV s = (0, false)) ∨ ∃ n : Nat, orphanV s = ((n : Int), true) ∧ orphR (n : Int) = (s, 0) := by
  rcases orphanV_spec s with h | ⟨n, h1, h2⟩
  · exact .inl h
  · refine .inr ⟨n, orphanV_true s n h1 h2, ?_⟩
    unfold orphR
    rw [if_pos ⟨by omega, by omega⟩, Int.toNat_natCast, ← h2, ofL_toList]
theorem PathOrphans : coppicelaw12_PathOrphans.Pure := by
  intro ino s hi hs
  refine ⟨2000000, ?_⟩
  unfold coppicelaw12_PathOrphans.f
  rw [awake_ok 2000000 (by omega), Option.bind_some, if_pos rfl]
  by_cases hb : (s.size : Int) > 1024
  · rw [if_pos hb]
  · have hz : (orphR ino).1.size ≤ 100 := by
      unfold orphR
      split
      · next h =>
        have hl := dec_length 12 ino.toNat (Nat.lt_of_le_of_lt (by omega : ino.toNat ≤ 1099511627776) ten13)
        show (0 :: Lib.decDigits ino.toNat).toArray.size ≤ _
        rw [List.size_toArray, List.length_cons]; omega
      · exact Nat.zero_le _
    rw [if_neg hb, orphan_f, Option.bind_some, rorphan_f ino _ (by omega), Option.bind_some, porph s (by omega), Option.bind_some, rorph_f s (by omega) _ (by omega), Option.bind_some, porph _ (by omega), Option.bind_some,
      if_pos rfl, if_pos rfl, orph_eq, if_pos rfl, if_neg (by simp)]
    have hname : nameB (orphR ino).1 = false := by
      rw [nameB_eq]
      unfold orphR
      split <;> simp [freeL, toList_ofL]
    have hown : orphanV (orphR ino).1 = if (orphR ino).2 = 0 then (ino, true) else (0, false) := by
      unfold orphR
      by_cases h : 1 ≤ ino ∧ ino ≤ 1099511627776
      · rw [if_pos h, if_pos rfl]
        obtain ⟨u, rfl⟩ : ∃ u : Nat, ino = (u : Int) := ⟨ino.toNat, by omega⟩
        rw [Int.toNat_natCast]
        exact orphanV_true _ u ⟨by omega, by omega⟩ rfl
      · rw [if_neg h, if_neg (by decide)]
        exact orphanV_other _ (by decide)
    have htail : ∀ x : Option Bool, (x = (if (orphanV s).2 = true then (if (orphR (orphanV s).1).2 = 0 then (some ((orphR (orphanV s).1).1.toList == s.toList)) else (some false)) else (some true))) → x = some true := by
      intro x hx
      rw [hx]
      rcases orph_back s with h | ⟨n, h1, h2⟩
      · rw [h, if_neg (by decide)]
      · rw [h1, if_pos rfl, h2, if_pos rfl]; simp
    rw [hown, name_f, Option.bind_some, hname, orphan_f, Option.bind_some]
    by_cases he : (orphR ino).2 = 0
    · rw [if_pos he, he]
      have hne : ((ino, true).2 != ((0 : Int) == 0)) = false := rfl
      rw [hne, if_neg (by decide), if_pos rfl, if_pos rfl, if_neg (by decide)]
      exact htail _ rfl
    · have hne : ((false : Bool) != ((orphR ino).2 == 0)) = false := by
        have : ((orphR ino).2 == 0) = false := by rw [beq_eq_false_iff_ne]; exact he
        rw [this]; rfl
      rw [if_neg he]
      simp only
      rw [hne, if_neg (by decide), if_neg (by decide), if_neg (by decide)]
      exact htail _ rfl
end Go.Proofs.YtkfmilfmpmmpkaaDoor.Pure
