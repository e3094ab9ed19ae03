import Derived.Test.YtdkbikaheagbfaaPTx9
import Derived.Test.YtdkbikaheagbfaaNodeC
/-! Nodes in parts: the parts' law. -/
set_option linter.unusedVariables false
set_option linter.unusedSectionVars false
set_option linter.unusedSimpArgs false
namespace Go.Proofs.Ytdkbikaheagbfaa.NodeP
open Go.RowKit Go.Proofs.Ytdkbikaheagbfaa.PT Go.Proofs.YtdkbikaheagbfaaW.PrintWords Go.Proofs.YtdkbikaheagbfaaW.PrintLast Go.Proofs.YtdkbikaheagbfaaW.PrintMore
open Go.Proofs.Ytdkbikaheagbfaa.Plain
/-- Where the parts begin and end: F says what fits. -/
def parts (F : Nat → Nat → Bool) : Nat → Nat → Nat → List (Nat × Nat)
  | 0, i, j => [(i, j)]
  | n + 1, i, j => if F i (j + 1) = true then parts F n i (j + 1) else (i, j) :: parts F n j (j + 1)
theorem parts_len (F : Nat → Nat → Bool) : ∀ n i j, 1 ≤ (parts F n i j).length ∧ (parts F n i j).length ≤ n + 1
  | 0, i, j => by simp [parts]
  | n + 1, i, j => by
    simp only [parts]
    have h1 := parts_len F n i (j + 1)
    have h2 := parts_len F n j (j + 1)
    by_cases c : F i (j + 1) = true
    · rw [if_pos c]; omega
    · rw [if_neg c, List.length_cons]; omega
theorem parts_all (F : Nat → Nat → Bool) (c : Nat) (one : ∀ j, j < c → F j (j + 1) = true) : ∀ n i j, i < j → j + n = c → F i j = true →
    ∀ p ∈ parts F n i j, p.1 < p.2 ∧ p.2 ≤ c ∧ F p.1 p.2 = true
  | 0, i, j, h, hc, hf, p, hp => by
    simp only [parts, List.mem_singleton] at hp
    subst hp; exact ⟨h, by simp only; omega, hf⟩
  | n + 1, i, j, h, hc, hf, p, hp => by
    simp only [parts] at hp
    by_cases q : F i (j + 1) = true
    · rw [if_pos q] at hp
      exact parts_all F c one n i (j + 1) (by omega) (by omega) q p hp
    · rw [if_neg q] at hp
      rcases List.mem_cons.mp hp with rfl | hp
      · exact ⟨h, by simp only; omega, hf⟩
      · exact parts_all F c one n j (j + 1) (by omega) (by omega) (one j (by omega)) p hp
theorem parts_one (F : Nat → Nat → Bool) (c : Nat) (anti : ∀ i j j', j ≤ j' → F i j' = true → F i j = true) : ∀ n i j, j + n = c → F i j = true →
    ((parts F n i j).length = 1 ↔ F i c = true)
  | 0, i, j, hc, hf => by
    obtain rfl : j = c := by omega
    simp [parts, hf]
  | n + 1, i, j, hc, hf => by
    simp only [parts]
    by_cases q : F i (j + 1) = true
    · rw [if_pos q]; exact parts_one F c anti n i (j + 1) (by omega) q
    · rw [if_neg q, List.length_cons]
      have h2 := parts_len F n j (j + 1)
      constructor
      · intro h; omega
      · intro h; exact (q (anti i (j + 1) c (by omega) h)).elim
theorem cut_app {α : Type} (X : List α) (i j c : Nat) (h1 : i ≤ j) (h2 : j ≤ c) : (X.take j).drop i ++ (X.take c).drop j = (X.take c).drop i := by
  have e : X.take j = (X.take c).take j := by rw [List.take_take, Nat.min_eq_left h2]
  rw [e]
  generalize X.take c = Y
  rw [List.drop_take, show Y.drop j = (Y.drop i).drop (j - i) by rw [List.drop_drop]; congr 1; omega, List.take_append_drop]
theorem parts_cat {α : Type} (X : List α) (F : Nat → Nat → Bool) : ∀ n i j, i ≤ j → (parts F n i j).flatMap (fun p => (X.take p.2).drop p.1) = (X.take (j + n)).drop i
  | 0, i, j, h => by simp [parts]
  | n + 1, i, j, h => by
    simp only [parts]
    by_cases q : F i (j + 1) = true
    · rw [if_pos q, parts_cat X F n i (j + 1) (by omega)]; congr 2; omega
    · rw [if_neg q, List.flatMap_cons, parts_cat X F n j (j + 1) (by omega), show j + 1 + n = j + (n + 1) by omega]
      exact cut_app X i j (j + (n + 1)) h (by omega)
theorem cut_step {α : Type} (X : List α) (i j : Nat) (h : i ≤ j) (hj : j < X.length) : (X.take (j + 1)).drop i = (X.take j).drop i ++ [X[j]] := by
  rw [List.take_succ_eq_append_getElem hj, List.drop_append_of_le_length (by rw [List.length_take]; omega)]
theorem risesB_tail (x : ByteArray) (r : List ByteArray) (h : risesB (x :: r) = true) : risesB r = true := by
  cases r with
  | nil => rfl
  | cons y r => simp only [risesB, Bool.and_eq_true] at h; exact h.2
theorem risesB_drop : ∀ (i : Nat) (r : List ByteArray), risesB r = true → risesB (r.drop i) = true
  | 0, r, h => by rw [List.drop_zero]; exact h
  | i + 1, [], h => rfl
  | i + 1, x :: r, h => by rw [List.drop_succ_cons]; exact risesB_drop i r (risesB_tail x r h)
theorem risesB_take : ∀ (i : Nat) (r : List ByteArray), risesB r = true → risesB (r.take i) = true
  | 0, r, h => rfl
  | i + 1, [], h => rfl
  | 1, x :: r, h => by rfl
  | i + 2, [x], h => rfl
  | i + 2, x :: y :: r, h => by
    simp only [risesB, Bool.and_eq_true] at h
    have := risesB_take (i + 1) (y :: r) h.2
    rw [List.take_succ_cons] at this
    simp only [List.take_succ_cons, risesB, Bool.and_eq_true]
    exact ⟨h.1, this⟩
theorem any_cut {α : Type} (p : α → Bool) (l : List α) (i j : Nat) (h : l.any p = false) : ((l.take j).drop i).any p = false := by
  rw [List.any_eq_false] at h ⊢
  exact fun x hx => h x (List.mem_of_mem_take (List.mem_of_mem_drop hx))
section
variable (a : Bool) (l : List S44) (m : List S46)
/-- The part from i to j. -/
def seg (i j : Nat) : S25 := ⟨a, (l.take j).drop i, (m.take j).drop i⟩
def sz (i j : Nat) : Nat := (refBytes a ((l.take j).drop i) ((m.take j).drop i)).length
def fitsB (i j : Nat) : Bool := decide (sz a l m i j ≤ 1007)
theorem small_seg (hs : small l m) (i j : Nat) : small ((l.take j).drop i) ((m.take j).drop i) := by
  obtain ⟨h1, h2, h3, h4⟩ := hs
  refine ⟨by rw [List.length_drop, List.length_take]; omega, by rw [List.length_drop, List.length_take]; omega, fun x hx => h3 x (List.mem_of_mem_take (List.mem_of_mem_drop hx)), fun x hx => h4 x (List.mem_of_mem_take (List.mem_of_mem_drop hx))⟩
theorem right_empty (h : rightB a l m = true) : (a = true → m = [] ∧ 0 < l.length) ∧ (a = false → l = [] ∧ 0 < m.length) := by
  unfold rightB at h
  constructor
  · rintro rfl
    rw [if_pos rfl] at h
    simp only [Bool.and_eq_true, beq_iff_eq, decide_eq_true_eq] at h
    exact ⟨List.length_eq_zero_iff.mp (by omega), by omega⟩
  · rintro rfl
    rw [if_neg (by decide)] at h
    simp only [Bool.and_eq_true, beq_iff_eq, decide_eq_true_eq] at h
    exact ⟨List.length_eq_zero_iff.mp (by omega), by omega⟩
theorem right_seg (h : rightB a l m = true) (i j : Nat) (h1 : i < j) (h2 : j ≤ l.length + m.length) : rightB a ((l.take j).drop i) ((m.take j).drop i) = true := by
  unfold rightB at h ⊢
  cases a with
  | true =>
    rw [if_pos rfl] at h ⊢
    simp only [Bool.and_eq_true, beq_iff_eq, decide_eq_true_eq, Bool.not_eq_true'] at h ⊢
    obtain ⟨e1, e2, e3, e4⟩ := h
    refine ⟨by rw [List.length_drop, List.length_take]; omega, by rw [List.length_drop, List.length_take]; omega, ?_, any_cut _ _ _ _ e4⟩
    rw [List.map_drop, List.map_take]; exact risesB_drop _ _ (risesB_take _ _ e3)
  | false =>
    rw [if_neg (by decide)] at h ⊢
    simp only [Bool.and_eq_true, beq_iff_eq, decide_eq_true_eq, Bool.not_eq_true'] at h ⊢
    obtain ⟨e1, e2, e3, e4⟩ := h
    refine ⟨by rw [List.length_drop, List.length_take]; omega, by rw [List.length_drop, List.length_take]; omega, ?_, any_cut _ _ _ _ e4⟩
    rw [List.map_drop, List.map_take]; exact risesB_drop _ _ (risesB_take _ _ e3)
theorem short_mono : ∀ (k : Nat) (x y : Int), 0 ≤ x → x ≤ y → (shortNums k x).length ≤ (shortNums k y).length
  | 0, x, y, _, _ => by simp [shortNums]
  | k + 1, x, y, h0, h => by
    unfold shortNums
    split <;> split
    · rw [List.length_cons, List.length_cons]; have := short_mono k (x / 128) (y / 128) (by omega) (by omega); omega
    · omega
    · simp
    · simp
theorem flat_take {α : Type} (f : α → List UInt8) (X : List α) (q : Nat) : ((X.take q).flatMap f).length ≤ (X.flatMap f).length := by
  conv => rhs; rw [← List.take_append_drop q X, List.flatMap_append, List.length_append]
  omega
theorem cut_take {α : Type} (X : List α) (i j j' : Nat) (h : j ≤ j') : (X.take j).drop i = ((X.take j').drop i).take (j - i) := by
  rw [show X.take j = (X.take j').take j by rw [List.take_take, Nat.min_eq_left h], List.drop_take]
theorem sz_mono (i j j' : Nat) (h : j ≤ j') : sz a l m i j ≤ sz a l m i j' := by
  unfold sz refBytes
  have e1 := flat_take itemBytes ((l.take j').drop i) (j - i)
  have e2 := flat_take kidBytes ((m.take j').drop i) (j - i)
  rw [← cut_take l i j j' h] at e1
  rw [← cut_take m i j j' h] at e2
  simp only [List.length_append, toList_len, List.length_cons, List.length_nil, shortB, strOfNums_size]
  have e3 : (shortNums 9 (if a = true then (((l.take j).drop i).length : Int) else (((m.take j).drop i).length : Int))).length ≤ (shortNums 9 (if a = true then (((l.take j').drop i).length : Int) else (((m.take j').drop i).length : Int))).length := by
    apply short_mono
    · split <;> omega
    · simp only [List.length_drop, List.length_take]; split <;> omega
  omega
theorem fits_anti (i j j' : Nat) (h : j ≤ j') (hf : fitsB a l m i j' = true) : fitsB a l m i j = true := by
  unfold fitsB at hf ⊢
  have := sz_mono a l m i j j' h
  rw [decide_eq_true_eq] at hf ⊢; omega
theorem fits_one (h : rightB a l m = true) (i : Nat) (hi : i < l.length + m.length) : fitsB a l m i (i + 1) = true := by
  have hr := right_seg a l m h i (i + 1) (by omega) (by omega)
  have he := right_empty a l m h
  unfold fitsB sz refBytes
  rw [decide_eq_true_eq]
  unfold rightB at hr
  cases a with
  | true =>
    rw [if_pos rfl] at hr
    obtain ⟨rfl, hl⟩ := he.1 rfl
    simp only [Bool.and_eq_true, beq_iff_eq, decide_eq_true_eq, Bool.not_eq_true'] at hr
    obtain ⟨e1, e2, e3, e4⟩ := hr
    have e := flat_len itemBytes 462 ((l.take (i + 1)).drop i) (fun x hx => by
      have := List.any_eq_false.mp e4 x hx
      simp only [itemFits, Bool.not_eq_true, Bool.not_eq_false', Bool.and_eq_true, decide_eq_true_eq] at this
      simp only [itemBytes, List.length_append, toList_len]
      have := textB_le x.f0; have := textB_le x.f1; omega)
    have e5 := shortB_le ((((l.take (i + 1)).drop i).length : Int))
    have e6 : ((l.take (i + 1)).drop i).length ≤ 1 := by rw [List.length_drop, List.length_take]; omega
    rw [if_pos rfl, if_pos rfl]
    simp only [List.take_nil, List.drop_nil, List.flatMap_nil, List.append_nil, List.length_append, toList_len, List.length_cons, List.length_nil]
    omega
  | false =>
    rw [if_neg (by decide)] at hr
    obtain ⟨rfl, hl⟩ := he.2 rfl
    simp only [Bool.and_eq_true, beq_iff_eq, decide_eq_true_eq, Bool.not_eq_true'] at hr
    obtain ⟨e1, e2, e3, e4⟩ := hr
    have e := flat_len kidBytes 292 ((m.take (i + 1)).drop i) (fun x hx => by
      have := List.any_eq_false.mp e4 x hx
      simp only [kidFits, Bool.not_eq_true, Bool.not_eq_false', Bool.and_eq_true, decide_eq_true_eq] at this
      simp only [kidBytes, List.length_append, toList_len]
      have := textB_le x.f0; have := shortB_le (x.f1 % 18446744073709551616); omega)
    have e5 := shortB_le ((((m.take (i + 1)).drop i).length : Int))
    have e6 : ((m.take (i + 1)).drop i).length ≤ 1 := by rw [List.length_drop, List.length_take]; omega
    rw [if_neg (by decide), if_neg (by decide)]
    simp only [List.take_nil, List.drop_nil, List.flatMap_nil, List.nil_append, List.length_append, toList_len, List.length_cons, List.length_nil]
    omega
end
end Go.Proofs.Ytdkbikaheagbfaa.NodeP
