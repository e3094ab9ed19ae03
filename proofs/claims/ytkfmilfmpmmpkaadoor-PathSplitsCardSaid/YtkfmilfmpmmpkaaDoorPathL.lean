import Derived.Test.YtkfmilfmpmmpkaaDoorPBx13
import Derived.Test.YtkfmilfmpmmpkaaDoorPathS
import Derived.Test.YtkfmilfmpmmpkaaDoorTarget
/-! Paths: where a target leads, the program's. -/
set_option linter.unusedVariables false
set_option linter.unusedSimpArgs false
namespace Go.Proofs.YtkfmilfmpmmpkaaDoor.PathP
open Go.RowKit Go.Proofs.YtkfmilfmpmmpkaaDoor.PB Go.Proofs.YtkfmilfmpmmpkaaDoorW.PrintWords Go.Proofs.YtkfmilfmpmmpkaaDoorW.PrintLast Go.Proofs.YtkfmilfmpmmpkaaDoorW.PrintMore
open Go.Proofs.YtkfmilfmpmmpkaaDoor.Plain Go.Proofs.YtkfmilfmpmmpkaaDoor.TargetP
/-- A name, or two dots. -/
def stepB (s : ByteArray) : Bool := decide (s = ofL [46, 46]) || nameB s
theorem lead1_f (s : ByteArray) : path_Lead_1.f s = some (!stepB s) := by
  unfold path_Lead_1.f stepB
  by_cases h : s = ofL [46, 46]
  · rw [if_pos ((toList_iff _ _).2 h)]; simp [h]
  · rw [if_neg (fun e => h ((toList_iff _ _).1 e)), name_f, Option.bind_some]; simp [h]
theorem index_leads (l : List ByteArray) (hl : l.length ≤ 1000000) : ∀ (m k i : Nat), l.length = i + m → m < k →
    ∃ r, slices_IndexFunc_string_path_Lead_1.l0 k l (l.length : Int) (i : Int) = some r ∧ (0 ≤ r ↔ (l.drop i).all stepB = false)
  | 0, k, i, hz, hk => by
    obtain ⟨k, rfl⟩ : ∃ q, k = q + 1 := ⟨k - 1, by omega⟩
    refine ⟨-1, ?_, ?_⟩
    · simp only [slices_IndexFunc_string_path_Lead_1.l0]; rw [if_neg (by omega)]
    · rw [List.drop_of_length_le (by omega)]; simp
  | m + 1, k, i, hz, hk => by
    obtain ⟨k, rfl⟩ : ∃ q, k = q + 1 := ⟨k - 1, by omega⟩
    simp only [slices_IndexFunc_string_path_Lead_1.l0]
    rw [if_pos (by omega), if_pos (by omega), if_pos (by omega), lead1_f, Option.bind_some, drop_rd l i (by omega)]
    cases hn : stepB (rdOf ByteArray.empty l (i : Int)) with
    | true =>
      obtain ⟨r, h1, h2⟩ := index_leads l hl m k (i + 1) (by omega) (by omega)
      refine ⟨r, ?_, ?_⟩
      · rw [if_neg (by decide), wrapn (by omega), h1]
      · rw [h2, List.all_cons, hn, Bool.true_and]
    | false =>
      refine ⟨i, by rw [if_pos (by rfl)], ?_⟩
      rw [List.all_cons, hn]
      simp
theorem contains_leads (l : List ByteArray) (hl : l.length ≤ 1000000) (k : Nat) (hk : l.length < k) : slices_ContainsFunc_string_path_Lead_1.f k l = some (!l.all stepB) := by
  unfold slices_ContainsFunc_string_path_Lead_1.f slices_IndexFunc_string_path_Lead_1.f
  obtain ⟨r, h1, h2⟩ := index_leads l hl l.length k 0 (by omega) hk
  rw [show (0 : Int) = ((0 : Nat) : Int) from rfl, h1, Option.bind_some]
  rw [List.drop_zero] at h2
  congr 1
  cases ha : l.all stepB with
  | true => rw [ha] at h2; exact decide_eq_false (fun h => by have := h2.1 h; cases this)
  | false => exact decide_eq_true (h2.2 ha)
/-- What Lead answers. -/
def leadR (s : ByteArray) : List ByteArray × Bool × Int :=
  if tgt s = true then
    if s.data.toList.head? = some 47 then ((splitR s).1, (splitR s).2 == 0, (splitR s).2)
    else if (cutS s).length ≤ 32 ∧ (cutS s).all stepB = true then (cutS s, false, 0) else ([], false, 120)
  else ([], false, 120)
theorem plead_f (s : ByteArray) (hs : s.size ≤ 1000000) (k : Nat) (hk : s.size + 10 ≤ k) : path_Lead.f k s = some (leadR s) := by
  unfold path_Lead.f leadR
  rw [target_ok, Option.bind_some]
  by_cases ht : tgt s = true
  · have h1 : 1 ≤ s.size := by
      unfold tgt at ht
      simp only [Bool.and_eq_true, decide_eq_true_eq] at ht
      exact ht.1
    rw [if_pos ht, if_pos ht, if_pos (by omega)]
    have hb : bt s 0 = 47 ↔ s[0]'(by omega) = 47 := bt_eq s 0 (by omega) 47 (by decide)
    have hh : s.data.toList.head? = some (s[0]'(by omega)) := by
      have := dropL s 0 (by omega)
      rw [List.drop_zero] at this
      rw [this]; rfl
    by_cases hc : s[0]'(by omega) = 47
    · rw [if_pos (hb.2 hc), if_pos (by rw [hh, hc]), psplit_f s hs k hk, Option.bind_some]
    · rw [if_neg (fun h => hc (hb.1 h)), if_neg (by rw [hh]; exact fun h => hc (Option.some.inj h)), split_f s hs k (by omega), Option.bind_some]
      have hlen : (cutS s).length ≤ s.size + 1 := by
        unfold cutS
        rw [cutFrom_len]
        have := List.count_le_length (a := (47 : UInt8)) (l := s.data.toList)
        rw [lenL] at this
        omega
      by_cases h32 : (cutS s).length ≤ 32
      · rw [if_neg (by omega), contains_leads _ (by omega) k (by omega), Option.bind_some]
        by_cases ha : (cutS s).all stepB = true
        · rw [ha, if_neg (by decide), if_pos ⟨h32, rfl⟩]
        · rw [if_pos (by simp only [Bool.not_eq_true] at ha; rw [ha]; rfl), if_neg (fun h : (cutS s).length ≤ 32 ∧ (cutS s).all stepB = true => ha h.2)]
      · rw [if_pos (by omega), if_neg (fun h => h32 h.1)]
  · rw [if_neg ht, if_neg ht]
end Go.Proofs.YtkfmilfmpmmpkaaDoor.PathP
