import Derived.Test.YtdkbikaheagbfaaPTx18
import Derived.Test.YtdkbikaheagbfaaNodeU
/-! Nodes in parts: the document's Split. -/
set_option linter.unusedVariables false
set_option linter.unusedSectionVars false
set_option linter.unusedSimpArgs false
namespace Go.Proofs.Ytdkbikaheagbfaa.NodeP
open Go.RowKit Go.Proofs.Ytdkbikaheagbfaa.PT Go.Proofs.YtdkbikaheagbfaaW.PrintWords Go.Proofs.YtdkbikaheagbfaaW.PrintLast Go.Proofs.YtdkbikaheagbfaaW.PrintMore
open Go.Proofs.Ytdkbikaheagbfaa.Plain
theorem at44 (l : List S44) (j : Nat) (hj : j < l.length) : rd_T44 l (j : Int) = l[j] := by
  unfold rd_T44
  rw [Int.toNat_natCast, List.getD_eq_getElem?_getD, List.getElem?_eq_getElem hj]; rfl
theorem at46 (l : List S46) (j : Nat) (hj : j < l.length) : rd_T46 l (j : Int) = l[j] := by
  unfold rd_T46
  rw [Int.toNat_natCast, List.getD_eq_getElem?_getD, List.getElem?_eq_getElem hj]; rfl
section
variable (a : Bool) (l : List S44) (m : List S46) (hs : small l m) (h : rightB a l m = true)
include hs h
theorem rsplit_l0 : ∀ (n k : Nat) (out : List S25) (i j : Nat), i ≤ j → j + n = l.length + m.length → 10110 + 2 * n ≤ k → out.length + n ≤ 20000 →
    coppiceref06_Split.l0 k out (j : Int) a l m a ((l.take j).drop i) ((m.take j).drop i) = some (out ++ (parts (fitsB a l m) n i j).map (fun p => seg a l m p.1 p.2)) := by
  have hs' := hs
  obtain ⟨s1, s2, s3, s4⟩ := hs'
  have he := right_empty a l m h
  intro n
  induction n with
  | zero =>
    intro k out i j h1 h2 hk ho
    obtain ⟨k, rfl⟩ : ∃ q, k = q + 1 := ⟨k - 1, by omega⟩
    rw [coppiceref06_Split.l0, wrap_in (by omega) (by omega), if_neg (by omega), if_pos (by omega)]
    rfl
  | succ n ih =>
    intro k out i j h1 h2 hk ho
    obtain ⟨k, rfl⟩ : ∃ q, k = q + 2 := ⟨k - 2, by omega⟩
    have e1 : ((l.take j).drop i).length ≤ 5000 := by rw [List.length_drop, List.length_take]; omega
    have e2 : ((m.take j).drop i).length ≤ 5000 := by rw [List.length_drop, List.length_take]; omega
    have step : coppiceref06_Split.j1 (k + 1) out (j : Int) a l m a ((l.take j).drop i) ((m.take j).drop i) a ((l.take (j + 1)).drop i) ((m.take (j + 1)).drop i) a ((l.take (j + 1)).drop j) ((m.take (j + 1)).drop j)
        = some (out ++ (parts (fitsB a l m) (n + 1) i j).map (fun p => seg a l m p.1 p.2)) := by
      rw [coppiceref06_Split.j1, bytes_ok k a _ _ (small_seg l m hs i (j + 1)) (by omega), Option.bind_some, ofL_size, wrapn (by omega)]
      simp only [parts]
      by_cases c : sz a l m i (j + 1) ≤ 1007
      · rw [if_neg (by unfold sz at c; omega), if_pos (by unfold fitsB; exact decide_eq_true c), ih k out i (j + 1) (by omega) (by omega) (by omega) (by omega)]
      · rw [if_pos (by unfold sz at c; omega), if_pos (by omega), if_neg (by unfold fitsB; rw [decide_eq_true_eq]; exact c), ih k _ j (j + 1) (by omega) (by omega) (by omega) (by rw [List.length_append, List.length_singleton]; omega)]
        rw [List.map_cons, List.append_assoc]; rfl
    rw [coppiceref06_Split.l0, wrap_in (by omega) (by omega), if_pos (by omega), Option.bind_some, if_pos (by rw [List.length_nil]; omega), Option.bind_some, Option.bind_some, if_pos (by rw [List.length_nil]; omega), Option.bind_some]
    cases a with
    | true =>
      obtain ⟨rfl, hl⟩ := he.1 rfl
      simp only [List.length_nil] at h2
      rw [if_pos rfl, if_pos (by omega), if_pos (by omega), if_pos (by rw [List.nil_append]; omega), if_pos (by rw [List.length_nil]; omega)]
      have e3 := cut_step l i j h1 (by omega)
      have e4 := cut_step l j j (Nat.le_refl j) (by omega)
      rw [← at44 l j (by omega)] at e3 e4
      rw [e3, e4] at step
      simp only [List.take_nil, List.drop_nil, List.nil_append] at step ⊢
      rw [show (l.take j).drop j = [] from List.drop_of_length_le (by rw [List.length_take]; omega), List.nil_append] at step
      exact step
    | false =>
      obtain ⟨rfl, hl⟩ := he.2 rfl
      simp only [List.length_nil] at h2
      rw [if_neg (by decide), if_pos (by omega), if_pos (by omega), if_pos (by rw [List.nil_append]; omega), if_pos (by rw [List.length_nil]; omega)]
      have e3 := cut_step m i j h1 (by omega)
      have e4 := cut_step m j j (Nat.le_refl j) (by omega)
      rw [← at46 m j (by omega)] at e3 e4
      rw [e3, e4] at step
      simp only [List.take_nil, List.drop_nil, List.nil_append] at step ⊢
      rw [show (m.take j).drop j = [] from List.drop_of_length_le (by rw [List.length_take]; omega), List.nil_append] at step
      exact step
omit h
theorem rsplit_ok (k : Nat) (hk : 40000 ≤ k) : coppiceref06_Split.f k a l m = some (splitL a l m) := by
  have hs' := hs
  obtain ⟨s1, s2, s3, s4⟩ := hs'
  unfold coppiceref06_Split.f splitL
  rw [right_ok k a l m hs (by omega), Option.bind_some]
  by_cases c : rightB a l m = true
  · rw [if_pos c, if_pos c]
    have he := right_empty a l m c
    have hp : 1 ≤ l.length + m.length := by
      cases a with
      | true => have := (he.1 rfl).2; omega
      | false => have := (he.2 rfl).2; omega
    have := rsplit_l0 a l m hs c (l.length + m.length) k [] 0 0 (by omega) (by omega) (by omega) (by simp only [List.length_nil]; omega)
    simp only [List.take_zero, List.drop_nil] at this
    refine this.trans ?_
    obtain ⟨q, hq⟩ : ∃ q, l.length + m.length = q + 1 := ⟨l.length + m.length - 1, by omega⟩
    rw [hq]
    simp only [parts]
    rw [if_pos (fits_one a l m c 0 (by omega))]
    rfl
  · rw [if_neg c, if_neg c]
end
end Go.Proofs.Ytdkbikaheagbfaa.NodeP
