import Derived.Test.YtgnffienfjigiaaDoorPlain
/-! Bytes by their numbers ('bt'), short and fixed numbers: plain facts, no program in sight. -/
namespace Go.Proofs.YtgnffienfjigiaaDoor.Plain
open Go.RowKit Go.Proofs.YtgnffienfjigiaaDoorW.PrintWords Go.Proofs.YtgnffienfjigiaaDoorW.PrintMore

theorem bt_nat (s : ByteArray) (i : Nat) (h : i < s.size) : bt s (i : Int) = (s[i].toNat : Int) := by
  rw [← bt_at s (i : Int) (by simpa using h)]; rfl
theorem ba_ext (x y : ByteArray) (hs : x.size = y.size) (h : ∀ i : Nat, i < x.size → bt x (i : Int) = bt y (i : Int)) : x = y := by
  apply ByteArray.ext
  apply Array.ext
  · exact hs
  · intro i h1 h2
    have h1' : i < x.size := h1
    have h2' : i < y.size := h2
    have e := h i h1'
    rw [bt_nat x i h1', bt_nat y i h2'] at e
    have e2 : x[i].toNat = y[i].toNat := by exact_mod_cast e
    exact UInt8.toNat_inj.mp e2
theorem getElem_strOfNums (l : List Int) (i : Nat) (h : i < (strOfNums l).size) (h' : i < l.length) : (strOfNums l)[i]'h = UInt8.ofNat (l[i]'h').toNat := by
  show (strOfNums l).data[i] = _
  simp [strOfNums]
theorem bt_strOfNums (l : List Int) (hl : ∀ x ∈ l, 0 ≤ x ∧ x < 256) (i : Nat) (h : i < l.length) : bt (strOfNums l) (i : Int) = l[i] := by
  have hs : i < (strOfNums l).size := by rw [strOfNums_size]; exact h
  rw [bt_nat _ i hs, getElem_strOfNums l i hs h]
  have := hl l[i] (List.getElem_mem h)
  rw [UInt8.toNat_ofNat_of_lt' (by have := this.2; show _ < 256; omega)]
  omega
theorem bt_append_left (x y : ByteArray) (i : Nat) (h : i < x.size) : bt (x ++ y) (i : Int) = bt x (i : Int) := by
  rw [bt_nat _ i (by rw [ByteArray.size_append]; omega), bt_nat _ i h]
  rw [ByteArray.getElem_append_left h]
theorem bt_append_right (x y : ByteArray) (i : Nat) (h : i < y.size) : bt (x ++ y) ((x.size + i : Nat) : Int) = bt y (i : Int) := by
  rw [bt_nat _ _ (by rw [ByteArray.size_append]; omega), bt_nat _ i h]
  rw [ByteArray.getElem_append_right (by omega)]
  congr 2
  simp
theorem bt_extract (s : ByteArray) (a b i : Nat) (h : i < (s.extract a b).size) : bt (s.extract a b) (i : Int) = bt s ((a + i : Nat) : Int) := by
  have h2 : a + i < s.size := by rw [ByteArray.size_extract] at h; omega
  rw [bt_nat _ i h, bt_nat _ _ h2, ByteArray.getElem_extract]
theorem bt_lt (s : ByteArray) (i : Int) : 0 ≤ bt s i ∧ bt s i < 256 := by have := bt_range s i; omega
/-- A part of s that holds just these numbers. -/
theorem extract_nums (s : ByteArray) (a : Nat) (l : List Int) (hl : ∀ x ∈ l, 0 ≤ x ∧ x < 256) (hz : a + l.length ≤ s.size)
    (h : ∀ (j : Nat) (hj : j < l.length), bt s ((a + j : Nat) : Int) = l[j]) : s.extract a (a + l.length) = strOfNums l := by
  have hsz : (s.extract a (a + l.length)).size = l.length := by rw [ByteArray.size_extract]; omega
  apply ba_ext
  · rw [hsz, strOfNums_size]
  · intro i hi
    rw [bt_extract s a _ i hi, bt_strOfNums l hl i (by omega), h i (by omega)]
theorem shortNums_range : ∀ (k : Nat) (n : Int), 0 ≤ n → n < 128 ^ k * 2 → ∀ x ∈ shortNums k n, 0 ≤ x ∧ x < 256
  | 0, n, h0, h1, x, hx => by simp [shortNums] at hx; omega
  | k + 1, n, h0, h1, x, hx => by
    unfold shortNums at hx
    split at hx
    · rw [List.mem_cons] at hx
      rcases hx with rfl | hx
      · omega
      · exact shortNums_range k (n / 128) (by omega) (by rw [Int.pow_succ] at h1; omega) x hx
    · simp at hx; omega
theorem shortNums_pos : ∀ (k : Nat) (n : Int), 1 ≤ (shortNums k n).length
  | 0, _ => by simp [shortNums]
  | k + 1, n => by unfold shortNums; split <;> simp
theorem shortNums_inj : ∀ (k : Nat) (m n : Int), 0 ≤ m → 0 ≤ n → shortNums k m = shortNums k n → m = n
  | 0, m, n, _, _, h => by simpa [shortNums] using h
  | k + 1, m, n, hm, hn, h => by
    unfold shortNums at h
    split at h <;> split at h
    · simp only [List.cons.injEq] at h
      have := shortNums_inj k (m / 128) (n / 128) (by omega) (by omega) h.2
      omega
    · have := shortNums_pos k (m / 128)
      simp only [List.cons.injEq] at h
      rw [h.2] at this
      simp at this
    · have := shortNums_pos k (n / 128)
      simp only [List.cons.injEq] at h
      rw [← h.2] at this
      simp at this
    · simpa using h
theorem strOfNums_inj (l m : List Int) (hl : ∀ x ∈ l, 0 ≤ x ∧ x < 256) (hm : ∀ x ∈ m, 0 ≤ x ∧ x < 256) (h : strOfNums l = strOfNums m) : l = m := by
  have hs : l.length = m.length := by rw [← strOfNums_size l, ← strOfNums_size m, h]
  apply List.ext_getElem hs
  intro i h1 h2
  rw [← bt_strOfNums l hl i h1, ← bt_strOfNums m hm i h2, h]
/-! ### fixed numbers: their value, their order -/
def val : List Int → Int
  | [] => 0
  | x :: r => x * 256 ^ r.length + val r
theorem val_range : ∀ (l : List Int), (∀ x ∈ l, 0 ≤ x ∧ x < 256) → 0 ≤ val l ∧ val l < 256 ^ l.length
  | [], _ => by simp [val]
  | x :: r, h => by
    have hx := h x (by simp)
    have hr := val_range r (fun y hy => h y (by simp [hy]))
    have hp : (0 : Int) < 256 ^ r.length := Int.pow_pos (by decide)
    simp only [val, List.length_cons, Int.pow_succ]
    have h1 : 0 ≤ x * 256 ^ r.length := Int.mul_nonneg hx.1 (Int.le_of_lt hp)
    have h2 : x * 256 ^ r.length ≤ 255 * 256 ^ r.length := Int.mul_le_mul_of_nonneg_right (by omega) (Int.le_of_lt hp)
    omega
theorem val_snoc : ∀ (l : List Int) (x : Int), val (l ++ [x]) = val l * 256 + x
  | [], x => by simp [val]
  | y :: r, x => by
    simp only [List.cons_append, val, val_snoc r x, List.length_append, List.length_singleton, Int.pow_succ]
    rw [Int.add_mul, Int.mul_assoc]
    omega
def ub (x : Int) : UInt8 := UInt8.ofNat x.toNat
theorem ub_lt (x y : Int) (hx : 0 ≤ x ∧ x < 256) (hy : 0 ≤ y ∧ y < 256) : (ub x < ub y) ↔ x < y := by
  unfold ub
  rw [UInt8.lt_iff_toNat_lt, UInt8.toNat_ofNat_of_lt' (by show _ < 256; omega), UInt8.toNat_ofNat_of_lt' (by show _ < 256; omega)]
  omega
theorem ub_eq (x y : Int) (hx : 0 ≤ x ∧ x < 256) (hy : 0 ≤ y ∧ y < 256) : (ub x = ub y) ↔ x = y := by
  unfold ub
  rw [← UInt8.toNat_inj, UInt8.toNat_ofNat_of_lt' (by show _ < 256; omega), UInt8.toNat_ofNat_of_lt' (by show _ < 256; omega)]
  omega
theorem less_val : ∀ (l m : List Int), l.length = m.length → (∀ x ∈ l, 0 ≤ x ∧ x < 256) → (∀ x ∈ m, 0 ≤ x ∧ x < 256) → Op.bytesLess (l.map ub) (m.map ub) = decide (val l < val m)
  | [], [], _, _, _ => by simp [Op.bytesLess, val]
  | x :: r, y :: t, hl, hx, hy => by
    have hx0 := hx x (by simp)
    have hy0 := hy y (by simp)
    have hr' := fun z hz => hx z (List.mem_cons_of_mem _ hz)
    have ht' := fun z hz => hy z (List.mem_cons_of_mem _ hz)
    have hl' : r.length = t.length := by simpa using hl
    have ih := less_val r t hl' hr' ht'
    have hr := val_range r hr'
    have ht := val_range t ht'
    have hp : (0 : Int) < 256 ^ r.length := Int.pow_pos (by decide)
    simp only [List.map_cons, Op.bytesLess, ih, val, ← hl'] at *
    by_cases c1 : x < y
    · have h1 : (x + 1) * 256 ^ r.length ≤ y * 256 ^ r.length := Int.mul_le_mul_of_nonneg_right (by omega) (Int.le_of_lt hp)
      rw [Int.add_mul] at h1
      have : x * 256 ^ r.length + val r < y * 256 ^ r.length + val t := by omega
      simp [(ub_lt x y hx0 hy0).mpr c1, this]
    · by_cases c2 : x = y
      · subst c2
        simp [show ¬ (ub x < ub x) from fun h => c1 ((ub_lt x x hx0 hy0).mp h)]
      · have h1 : (y + 1) * 256 ^ r.length ≤ x * 256 ^ r.length := Int.mul_le_mul_of_nonneg_right (by omega) (Int.le_of_lt hp)
        rw [Int.add_mul] at h1
        have h3 : ¬ (x * 256 ^ r.length + val r < y * 256 ^ r.length + val t) := by omega
        have h4 : ¬ (ub x < ub y) := fun h => c1 ((ub_lt x y hx0 hy0).mp h)
        have h5 : ¬ (ub x = ub y) := fun h => c2 ((ub_eq x y hx0 hy0).mp h)
        rw [decide_eq_false h3]
        simp [h4, h5]
theorem strOfNums_append (l m : List Int) : strOfNums l ++ strOfNums m = strOfNums (l ++ m) := by
  apply ByteArray.ext
  simp [strOfNums, ByteArray.data_append]
theorem toList_nums (l : List Int) : (strOfNums l).toList = l.map ub := by rw [ByteArray.toList_eq, strOfNums_data]; rfl
theorem fixedNums_range (n : Int) (h0 : 0 ≤ n) (h1 : n < 18446744073709551616) : ∀ x ∈ fixedNums n, 0 ≤ x ∧ x < 256 := by
  intro x hx
  simp only [fixedNums, List.mem_cons, List.not_mem_nil, or_false] at hx
  rcases hx with rfl | rfl | rfl | rfl | rfl | rfl | rfl | rfl <;> omega
theorem val_fixed (n : Int) : val (fixedNums n) = n := by
  simp only [fixedNums, val, List.length_cons, List.length_nil]
  omega
theorem fixed_less (a b : Int) (ha : 0 ≤ a ∧ a < 18446744073709551616) (hb : 0 ≤ b ∧ b < 18446744073709551616) :
    Op.bytesLess (strOfNums (fixedNums a)).toList (strOfNums (fixedNums b)).toList = decide (a < b) := by
  rw [toList_nums, toList_nums, less_val (fixedNums a) (fixedNums b) rfl (fixedNums_range a ha.1 ha.2) (fixedNums_range b hb.1 hb.2), val_fixed, val_fixed]
theorem beq_toList (x y : ByteArray) : (x.toList == y.toList) = decide (x = y) := by
  rw [ByteArray.toList_eq, ByteArray.toList_eq]
  by_cases h : x = y
  · subst h; simp
  · have : x.data.toList ≠ y.data.toList := fun e => h (by cases x; cases y; simp_all)
    rw [decide_eq_false h]
    exact beq_eq_false_iff_ne.mpr this
theorem fixed_inj (a b : Int) (ha : 0 ≤ a ∧ a < 18446744073709551616) (hb : 0 ≤ b ∧ b < 18446744073709551616) (h : strOfNums (fixedNums a) = strOfNums (fixedNums b)) : a = b := by
  have := strOfNums_inj _ _ (fixedNums_range a ha.1 ha.2) (fixedNums_range b hb.1 hb.2) h
  rw [← val_fixed a, ← val_fixed b, this]
theorem short_inj (a b : Int) (ha : 0 ≤ a ∧ a < 18446744073709551616) (hb : 0 ≤ b ∧ b < 18446744073709551616) (h : strOfNums (shortNums 9 a) = strOfNums (shortNums 9 b)) : a = b := by
  have := strOfNums_inj _ _ (shortNums_range 9 a ha.1 (by omega)) (shortNums_range 9 b hb.1 (by omega)) h
  exact shortNums_inj 9 a b ha.1 hb.1 this
/-- The number that eight bytes tell. -/
def fixedVal (s : ByteArray) (a : Int) : Int := val [bt s a, bt s (a + 1), bt s (a + 2), bt s (a + 3), bt s (a + 4), bt s (a + 5), bt s (a + 6), bt s (a + 7)]
theorem fixedVal_range (s : ByteArray) (a : Int) : 0 ≤ fixedVal s a ∧ fixedVal s a < 18446744073709551616 := by
  have := val_range [bt s a, bt s (a + 1), bt s (a + 2), bt s (a + 3), bt s (a + 4), bt s (a + 5), bt s (a + 6), bt s (a + 7)] (by
    intro x hx
    simp only [List.mem_cons, List.not_mem_nil, or_false] at hx
    rcases hx with rfl | rfl | rfl | rfl | rfl | rfl | rfl | rfl <;> exact bt_lt _ _)
  unfold fixedVal
  simpa using this
/-- What a reader of a short number answers: it has just the number's bytes. -/
theorem rsl_sound (s : ByteArray) (was : Int) : ∀ (k i : Nat) (n r : Int) (s' : ByteArray) (at' : Int), k + i = 9 → was + i ≤ s.size →
    rsl s was (k + 1) (i : Int) n = some (r, s', at', 0) →
    s' = s ∧ ∃ m : Int, 0 ≤ m ∧ m < 128 ^ k * 2 ∧ (0 < i → 0 < m) ∧ r = n + m * 128 ^ i ∧ at' = was + i + (shortNums k m).length ∧ at' ≤ s.size ∧
      ∀ (j : Nat) (hj : j < (shortNums k m).length), bt s (was + i + (j : Int)) = (shortNums k m)[j] := by
  intro k
  induction k with
  | zero =>
    intro i n r s' at' hki hsz h
    have hb := bt_lt s (was + i)
    simp only [rsl] at h
    by_cases c1 : was + (i : Int) = (s.size : Int)
    · rw [if_pos c1] at h; simp at h
    rw [if_neg c1] at h
    by_cases c2 : ((i : Int) = 9 ∧ 1 < bt s (was + i)) ∨ (bt s (was + i) = 0 ∧ 0 < (i : Int))
    · rw [if_pos c2] at h; simp at h
    rw [if_neg c2] at h
    have hb1 : bt s (was + i) = 1 := by omega
    rw [if_pos (by omega)] at h
    simp only [Option.some.injEq, Prod.mk.injEq] at h
    obtain ⟨rfl, rfl, rfl, _⟩ := h
    refine ⟨rfl, 1, by omega, by omega, by omega, ?_, ?_, by omega, ?_⟩
    · rw [hb1]; simp [acc7]
    · simp [shortNums]
    · intro j hj
      have : j = 0 := by simp [shortNums] at hj; omega
      subst this
      simp [shortNums, hb1]
  | succ k ih =>
    intro i n r s' at' hki hsz h
    have hb := bt_lt s (was + i)
    rw [rsl] at h
    by_cases c1 : was + (i : Int) = (s.size : Int)
    · rw [if_pos c1] at h; simp at h
    rw [if_neg c1] at h
    by_cases c2 : ((i : Int) = 9 ∧ 1 < bt s (was + i)) ∨ (bt s (was + i) = 0 ∧ 0 < (i : Int))
    · rw [if_pos c2] at h; simp at h
    rw [if_neg c2] at h
    by_cases c3 : bt s (was + i) < 128
    · rw [if_pos c3] at h
      simp only [Option.some.injEq, Prod.mk.injEq] at h
      obtain ⟨rfl, rfl, rfl, _⟩ := h
      have hp : (1 : Int) ≤ 128 ^ k := Int.pow_pos (by decide)
      refine ⟨rfl, bt s (was + i), hb.1, by rw [Int.pow_succ]; omega, by omega, ?_, ?_, by omega, ?_⟩
      · unfold acc7; rw [Int.toNat_natCast, Int.emod_eq_of_lt hb.1 c3]
      · unfold shortNums; rw [if_neg (by omega)]; simp
      · intro j hj
        have e : shortNums (k + 1) (bt s (was + i)) = [bt s (was + i)] := by unfold shortNums; rw [if_neg (by omega)]
        have : j = 0 := by rw [e] at hj; simp at hj; omega
        subst this
        simp [e]
    · rw [if_neg c3] at h
      have hcast : (i : Int) + 1 = ((i + 1 : Nat) : Int) := by omega
      rw [hcast] at h
      obtain ⟨hs, m, hm0, hm1, hmp, hr, hat, hle, hbt⟩ := ih (i + 1) _ r s' at' (by omega) (by omega) h
      refine ⟨hs, bt s (was + i) % 128 + 128 * m, by omega, by rw [Int.pow_succ]; omega, by omega, ?_, ?_, hle, ?_⟩
      · rw [hr]
        unfold acc7
        rw [Int.toNat_natCast, Int.pow_succ, Int.add_mul, Int.mul_comm (128 ^ i) 128, Int.mul_comm 128 m, Int.mul_assoc]
        omega
      all_goals
        have hmp' := hmp (by omega)
        have e : shortNums (k + 1) (bt s (was + i) % 128 + 128 * m) = bt s (was + i) :: shortNums k m := by
          rw [shortNums]
          rw [if_pos (by omega)]
          congr 1
          · omega
          · congr 1
            omega
      · rw [e, hat]; simp only [List.length_cons]; omega
      · intro j hj
        simp only [e]
        cases j with
        | zero => simp
        | succ j =>
          have hj' : j < (shortNums k m).length := by rw [e] at hj; simpa using hj
          rw [List.getElem_cons_succ, ← hbt j hj']
          congr 1
          omega
theorem rsl_complete (s : ByteArray) (was : Int) : ∀ (k i : Nat) (n m : Int), k + i = 9 → 0 ≤ m → m < 128 ^ k * 2 → (0 < i → 0 < m) → was + i + (shortNums k m).length ≤ s.size →
    (∀ (j : Nat) (hj : j < (shortNums k m).length), bt s (was + i + (j : Int)) = (shortNums k m)[j]) →
    rsl s was (k + 1) (i : Int) n = some (n + m * 128 ^ i, s, was + i + (shortNums k m).length, 0) := by
  intro k
  induction k with
  | zero =>
    intro i n m hki hm0 hm1 hmp hsz h
    have e : shortNums 0 m = [m] := rfl
    have hb := h 0 (by simp [e])
    simp only [e, List.length_singleton, List.getElem_singleton] at hb hsz ⊢
    have hb' : bt s (was + i) = m := by rw [← hb]; congr 1; omega
    simp only [rsl]
    rw [if_neg (by omega), hb', if_neg (by omega), if_pos (by omega)]
    unfold acc7
    rw [Int.toNat_natCast, Int.emod_eq_of_lt hm0 (by omega)]
    simp
  | succ k ih =>
    intro i n m hki hm0 hm1 hmp hsz h
    by_cases c : 127 < m
    · have e : shortNums (k + 1) m = (m % 128 + 128) :: shortNums k (m / 128) := by rw [shortNums, if_pos c]
      have hb := h 0 (by simp [e])
      simp only [e, List.getElem_cons_zero, List.length_cons] at hb hsz ⊢
      have hb' : bt s (was + i) = m % 128 + 128 := by rw [← hb]; congr 1; omega
      have hm2 : m < 128 ^ k * 128 * 2 := by rw [← Int.pow_succ]; exact hm1
      rw [rsl, if_neg (by omega), hb', if_neg (by omega), if_neg (by omega)]
      have hcast : (i : Int) + 1 = ((i + 1 : Nat) : Int) := by omega
      rw [hcast, ih (i + 1) _ (m / 128) (by omega) (by omega) (by omega) (by omega) (by omega) (by
        intro j hj
        have := h (j + 1) (by rw [e]; simpa using hj)
        simp only [e, List.getElem_cons_succ] at this
        rw [← this]
        congr 1
        omega)]
      simp only [Option.some.injEq, Prod.mk.injEq, and_true, true_and]
      refine ⟨?_, by omega⟩
      unfold acc7
      rw [Int.toNat_natCast, Int.pow_succ]
      have hq : m = m % 128 + 128 * (m / 128) := by omega
      have h3 : (m % 128 + 128) % 128 = m % 128 := by omega
      rw [h3]
      have h4 : m * 128 ^ i = (m % 128) * 128 ^ i + 128 * (m / 128) * 128 ^ i := by rw [← Int.add_mul, ← hq]
      rw [h4, Int.mul_comm (128 ^ i) 128, ← Int.mul_assoc (m / 128), Int.mul_comm (m / 128) 128]
      omega
    · have e : shortNums (k + 1) m = [m] := by rw [shortNums, if_neg c]
      have hb := h 0 (by simp [e])
      simp only [e, List.length_singleton, List.getElem_singleton] at hb hsz ⊢
      have hb' : bt s (was + i) = m := by rw [← hb]; congr 1; omega
      rw [rsl, if_neg (by omega), hb', if_neg (by omega), if_pos (by omega)]
      unfold acc7
      rw [Int.toNat_natCast, Int.emod_eq_of_lt hm0 (by omega)]
      simp
/-- Whatever the bytes, a reader of a short number answers; with an error it stands where it stood. -/
theorem rsl_cases (s : ByteArray) (was : Int) : ∀ (k i : Nat) (n : Int), k + i = 9 →
    ∃ (n' at' e : Int), rsl s was (k + 1) (i : Int) n = some (n', s, at', e) ∧ (e = 0 ∨ (e = 20 ∨ e = 21) ∧ at' = was ∧ n' = 0) := by
  intro k
  induction k with
  | zero =>
    intro i n hki
    have hb := bt_lt s (was + i)
    simp only [rsl]
    by_cases c1 : was + (i : Int) = (s.size : Int)
    · rw [if_pos c1]; exact ⟨_, _, _, rfl, .inr ⟨.inl rfl, rfl, rfl⟩⟩
    rw [if_neg c1]
    by_cases c2 : ((i : Int) = 9 ∧ 1 < bt s (was + i)) ∨ (bt s (was + i) = 0 ∧ 0 < (i : Int))
    · rw [if_pos c2]; exact ⟨_, _, _, rfl, .inr ⟨.inr rfl, rfl, rfl⟩⟩
    rw [if_neg c2, if_pos (by omega)]
    exact ⟨_, _, _, rfl, .inl rfl⟩
  | succ k ih =>
    intro i n hki
    rw [rsl]
    by_cases c1 : was + (i : Int) = (s.size : Int)
    · rw [if_pos c1]; exact ⟨_, _, _, rfl, .inr ⟨.inl rfl, rfl, rfl⟩⟩
    rw [if_neg c1]
    by_cases c2 : ((i : Int) = 9 ∧ 1 < bt s (was + i)) ∨ (bt s (was + i) = 0 ∧ 0 < (i : Int))
    · rw [if_pos c2]; exact ⟨_, _, _, rfl, .inr ⟨.inr rfl, rfl, rfl⟩⟩
    rw [if_neg c2]
    by_cases c3 : bt s (was + i) < 128
    · rw [if_pos c3]; exact ⟨_, _, _, rfl, .inl rfl⟩
    · rw [if_neg c3]
      have hcast : (i : Int) + 1 = ((i + 1 : Nat) : Int) := by omega
      rw [hcast]
      exact ih (i + 1) _ (by omega)
/-- A short number that was read: its number, its bytes. -/
theorem rsl_read (s : ByteArray) (was : Int) (hw : 0 ≤ was) (hz : was ≤ s.size) (n' at' : Int) (h : rsl s was 10 0 0 = some (n', s, at', 0)) :
    0 ≤ n' ∧ n' < 18446744073709551616 ∧ at' = was + (shortNums 9 n').length ∧ at' ≤ s.size ∧ s.extract was.toNat at'.toNat = strOfNums (shortNums 9 n') := by
  obtain ⟨_, m, h0, h1, _, hr, hat, hle, hb⟩ := rsl_sound s was 9 0 0 n' s at' (by omega) (by simpa using hz) (by simpa using h)
  have hm : n' = m := by rw [hr]; simp
  subst hm
  refine ⟨h0, by omega, by omega, hle, ?_⟩
  have e := extract_nums s was.toNat (shortNums 9 n') (shortNums_range 9 n' h0 h1) (by omega) (by
    intro j hj
    rw [← hb j hj]
    congr 1
    omega)
  rw [← e]
  congr 1
  omega
/-- What was written is read. -/
theorem rsl_write (s : ByteArray) (was : Int) (n : Int) (h0 : 0 ≤ n) (h1 : n < 18446744073709551616) (hz : was + (shortNums 9 n).length ≤ s.size)
    (hb : ∀ (j : Nat) (hj : j < (shortNums 9 n).length), bt s (was + (j : Int)) = (shortNums 9 n)[j]) : rsl s was 10 0 0 = some (n, s, was + (shortNums 9 n).length, 0) := by
  have := rsl_complete s was 9 0 0 n (by omega) h0 (by omega) (by omega) (by omega) (by intro j hj; rw [← hb j hj]; congr 1; omega)
  simpa using this
end Go.Proofs.YtgnffienfjigiaaDoor.Plain
