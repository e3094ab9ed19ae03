import Derived.Test.YtkfmilfmpmmpkaaDoorPBx6
import Derived.Test.YtkfmilfmpmmpkaaDoorPBx7
import Derived.Test.YtkfmilfmpmmpkaaDoorPathS
import Derived.Lib.ItoaNum
/-! Paths: the document's examples; what is told of names. -/
set_option linter.unusedVariables false
set_option linter.unusedSimpArgs false
namespace Go.Proofs.YtkfmilfmpmmpkaaDoor.PathP
open Go.RowKit Go.Proofs.YtkfmilfmpmmpkaaDoor.PB Go.Proofs.YtkfmilfmpmmpkaaDoorW.PrintWords Go.Proofs.YtkfmilfmpmmpkaaDoorW.PrintLast Go.Proofs.YtkfmilfmpmmpkaaDoorW.PrintMore
open Go.Proofs.YtkfmilfmpmmpkaaDoor.Plain
theorem nameB_eq (s : ByteArray) : nameB s = (freeL s.data.toList && (!s.data.toList.isEmpty && (decide ((s.data.toList.length : Int) ≤ 255) && (!(s.data.toList == [46]) && !(s.data.toList == [46, 46]))))) := by
  unfold nameB nameOk
  rw [ByteArray.toList_eq, lenL]
theorem splitR_ex : splitR (⟨#[47, 97, 47, 98]⟩ : ByteArray) = ([⟨#[97]⟩, ⟨#[98]⟩], 0) := by
  unfold splitR pathNames
  rw [if_neg (by decide), if_pos (by decide)]
  have hc : cutS (ofL (⟨#[47, 97, 47, 98]⟩ : ByteArray).data.toList.tail) = [⟨#[97]⟩, ⟨#[98]⟩] := by decide +kernel
  rw [hc, if_pos ⟨by decide, by simp only [List.head?_cons, Option.any_some, nameB_eq]; decide +kernel, by simp only [List.tail_cons, List.all_cons, List.all_nil, nameB_eq]; decide +kernel⟩]
theorem awake_ok (k : Nat) (hk : 100 ≤ k) : coppicelaw12_awake.f k = some true := by
  unfold coppicelaw12_awake.f
  have hz : (⟨#[47, 97, 47, 98]⟩ : ByteArray).size = 4 := rfl
  rw [psplit_f _ (by rw [hz]; omega) k (by rw [hz]; omega), splitR_ex, Option.bind_some]
  have ho : path_Orphan.f 7 = some (⟨#[0, 55]⟩, 0) := by
    unfold path_Orphan.f strconv_Itoa.f
    have hd : Lib.decDigits 7 = [55] := by
      unfold Lib.decDigits
      rw [dif_pos (by omega)]; rfl
    have hi : Lib.itoa 7 = [55] := by
      unfold Lib.itoa
      rw [if_neg (by omega)]
      exact hd
    rw [if_neg (by omega), if_neg (by omega), if_pos (by omega)]
    first
      | (rw [hi, Option.bind_some, if_pos (by decide)]; rfl)
      | (rw [show (7 : Int).toNat = 7 from rfl, hd, Option.bind_some, if_pos (by decide)]; rfl)
  rw [ho, Option.bind_some]
  have hn1 : nameB (⟨#[97]⟩ : ByteArray) = true := by rw [nameB_eq]; decide +kernel
  have hn2 : nameB (⟨#[46, 46]⟩ : ByteArray) = false := by rw [nameB_eq]; decide +kernel
  simp only [name_f, Option.bind_some, hn1, hn2]
  have r0 : rdOf ByteArray.empty [(⟨#[97]⟩ : ByteArray), ⟨#[98]⟩] 0 = ⟨#[97]⟩ := rfl
  have r1 : rdOf ByteArray.empty [(⟨#[97]⟩ : ByteArray), ⟨#[98]⟩] 1 = ⟨#[98]⟩ := rfl
  have t0 : (⟨#[97]⟩ : ByteArray).toList = [97] := by rw [ByteArray.toList_eq]
  have t1 : (⟨#[98]⟩ : ByteArray).toList = [98] := by rw [ByteArray.toList_eq]
  have t2 : (⟨#[0, 55]⟩ : ByteArray).toList = [0, 55] := by rw [ByteArray.toList_eq]
  simp [r0, r1, t0, t1, t2]
theorem splitR_cases (s : ByteArray) : (splitR s).2 = 0 ∨ splitR s = ([], 120) := by
  unfold splitR pathNames
  repeat' split
  all_goals first | exact .inl rfl | exact .inr rfl
/-- The first piece begins with what was met. -/
theorem cutFrom_first (l : List UInt8) : ∀ one : ByteArray, ∃ x r, cutFrom one l = x :: r ∧ one.data.toList <+: x.data.toList := by
  induction l with
  | nil => intro one; exact ⟨one, [], rfl, List.prefix_refl _⟩
  | cons c l ih =>
    intro one
    simp only [cutFrom]
    split
    · exact ⟨one, _, rfl, List.prefix_refl _⟩
    · obtain ⟨x, r, h1, h2⟩ := ih (one ++ ⟨#[c]⟩)
      refine ⟨x, r, h1, ?_⟩
      rw [append_list] at h2
      exact (List.prefix_append _ _).trans h2
theorem name_nonzero (x : ByteArray) (h : nameB x = true) : ∀ c ∈ x.data.toList, c ≠ 0 ∧ c ≠ 47 := by
  intro c hc
  unfold nameB at h
  rw [Bool.and_eq_true] at h
  have := List.all_eq_true.1 h.1 c hc
  simp only [Bool.and_eq_true, bne_iff_ne, ne_eq] at this
  exact ⟨this.2, this.1⟩
theorem cut_nonzero (l : List UInt8) : ∀ one : ByteArray, (cutFrom one l).all nameB = true → ∀ c ∈ l, c ≠ 0 := by
  induction l with
  | nil => intro one _ c hc; cases hc
  | cons a l ih =>
    intro one h c hc
    simp only [cutFrom] at h
    split at h
    · next h47 =>
      rw [List.all_cons, Bool.and_eq_true] at h
      rcases List.mem_cons.1 hc with rfl | hm
      · rw [h47]; decide
      · exact ih _ h.2 c hm
    · next h47 =>
      rcases List.mem_cons.1 hc with rfl | hm
      · obtain ⟨x, r, h1, h2⟩ := cutFrom_first l (one ++ ⟨#[c]⟩)
        rw [h1, List.all_cons, Bool.and_eq_true] at h
        refine (name_nonzero x h.1 c (h2.subset ?_)).1
        rw [append_list]; simp
      · exact ih _ h c hm
/-- A path's form. -/
theorem splitR_ok (s : ByteArray) (h : (splitR s).2 = 0) : (s = ofL [47] ∧ splitR s = ([], 0)) ∨ ∃ t, s.data.toList = 47 :: t ∧ t ≠ [] ∧ s.size ≤ 1023 ∧ splitR s = (cutS (ofL t), 0) ∧ (cutS (ofL t)).length ≤ 32 ∧ (cutS (ofL t)).all nameB = true := by
  unfold splitR pathNames at h ⊢
  by_cases h0 : s = ofL [47]
  · rw [if_pos h0]; exact .inl ⟨h0, rfl⟩
  · rw [if_neg h0] at h ⊢
    by_cases h1 : s.data.toList.head? = some 47 ∧ s.size ≤ 1023
    · rw [if_pos h1] at h ⊢
      obtain ⟨hh, hz⟩ := h1
      rcases hd : s.data.toList with _ | ⟨c, t⟩
      · rw [hd] at hh; cases hh
      · rw [hd] at hh h
        obtain rfl : c = 47 := Option.some.inj hh
        rw [List.tail_cons] at h
        refine .inr ⟨t, rfl, ?_, hz, ?_⟩
        · intro ht
          rw [ht] at hd
          exact h0 (ext_list (by rw [hd]; rfl))
        · rw [List.tail_cons]
          by_cases h2 : (cutS (ofL t)).length ≤ 32 ∧ (cutS (ofL t)).head?.any nameB = true ∧ (cutS (ofL t)).tail.all nameB = true
          · rw [if_pos h2]
            refine ⟨rfl, h2.1, ?_⟩
            obtain ⟨x, r, hx⟩ := cutS_ne (ofL t)
            rw [hx] at h2 ⊢
            simp only [List.head?_cons, Option.any_some, List.tail_cons] at h2
            rw [List.all_cons, h2.2.1, h2.2.2]; rfl
          · rw [if_neg h2] at h; cases h
    · rw [if_neg h1] at h; cases h
end Go.Proofs.YtkfmilfmpmmpkaaDoor.PathP
