-- WRITTEN BY a program of this session (mergeset.py): several texts as one
import Derived.Test.YtofdpgcnconibaaGreatDoorPlain
import Derived.Test.YtofdpgcnconibaaGreatDoorPAx23
import Derived.Test.YtofdpgcnconibaaGreatDoorPAx24
import Derived.Test.YtofdpgcnconibaaGreatDoorPAx25
import Derived.Test.YtofdpgcnconibaaGreatDoorPAx8
import Derived.Test.YtofdpgcnconibaaGreatDoorPAx31
set_option linter.unusedVariables false
set_option linter.unusedSimpArgs false
/-! Bytes by their numbers ('bt'), short and fixed numbers: plain facts, no program in sight. -/
namespace Go.Proofs.YtofdpgcnconibaaGreatDoor.Plain
open Go.RowKit Go.Proofs.YtofdpgcnconibaaGreatDoorW.PrintWords Go.Proofs.YtofdpgcnconibaaGreatDoorW.PrintMore

theorem bt_nat (s : ByteArray) (i : Nat) (h : i < s.size) : bt s (i : Int) = (s[i].toNat : Int) := by
  rw [← bt_at s (i : Int) (by simpa using h)]; rfl
theorem ba_ext (x y : ByteArray) (hs : x.size = y.size) (h : ∀ i : Nat, i < x.size → bt x (i : Int) = bt y (i : Int)) : x = y := by
  apply ByteArray.ext
  apply Array.ext
  · exact hs
  · intro i h1 h2
    have h1' : i < x.size := h1
    have h2' : i < y.size := h2
    have e := h i h1'
    rw [bt_nat x i h1', bt_nat y i h2'] at e
    have e2 : x[i].toNat = y[i].toNat := by exact_mod_cast e
    exact UInt8.toNat_inj.mp e2
theorem getElem_strOfNums (l : List Int) (i : Nat) (h : i < (strOfNums l).size) (h' : i < l.length) : (strOfNums l)[i]'h = UInt8.ofNat (l[i]'h').toNat := by
  show (strOfNums l).data[i] = _
  simp [strOfNums]
theorem bt_strOfNums (l : List Int) (hl : ∀ x ∈ l, 0 ≤ x ∧ x < 256) (i : Nat) (h : i < l.length) : bt (strOfNums l) (i : Int) = l[i] := by
  have hs : i < (strOfNums l).size := by rw [strOfNums_size]; exact h
  rw [bt_nat _ i hs, getElem_strOfNums l i hs h]
  have := hl l[i] (List.getElem_mem h)
  rw [UInt8.toNat_ofNat_of_lt' (by have := this.2; show _ < 256; omega)]
  omega
theorem bt_append_left (x y : ByteArray) (i : Nat) (h : i < x.size) : bt (x ++ y) (i : Int) = bt x (i : Int) := by
  rw [bt_nat _ i (by rw [ByteArray.size_append]; omega), bt_nat _ i h]
  rw [ByteArray.getElem_append_left h]
theorem bt_append_right (x y : ByteArray) (i : Nat) (h : i < y.size) : bt (x ++ y) ((x.size + i : Nat) : Int) = bt y (i : Int) := by
  rw [bt_nat _ _ (by rw [ByteArray.size_append]; omega), bt_nat _ i h]
  rw [ByteArray.getElem_append_right (by omega)]
  congr 2
  simp
theorem bt_extract (s : ByteArray) (a b i : Nat) (h : i < (s.extract a b).size) : bt (s.extract a b) (i : Int) = bt s ((a + i : Nat) : Int) := by
  have h2 : a + i < s.size := by rw [ByteArray.size_extract] at h; omega
  rw [bt_nat _ i h, bt_nat _ _ h2, ByteArray.getElem_extract]
theorem bt_lt (s : ByteArray) (i : Int) : 0 ≤ bt s i ∧ bt s i < 256 := by have := bt_range s i; omega
/-- A part of s that holds just these numbers. -/
theorem extract_nums (s : ByteArray) (a : Nat) (l : List Int) (hl : ∀ x ∈ l, 0 ≤ x ∧ x < 256) (hz : a + l.length ≤ s.size)
    (h : ∀ (j : Nat) (hj : j < l.length), bt s ((a + j : Nat) : Int) = l[j]) : s.extract a (a + l.length) = strOfNums l := by
  have hsz : (s.extract a (a + l.length)).size = l.length := by rw [ByteArray.size_extract]; omega
  apply ba_ext
  · rw [hsz, strOfNums_size]
  · intro i hi
    rw [bt_extract s a _ i hi, bt_strOfNums l hl i (by omega), h i (by omega)]
theorem shortNums_range : ∀ (k : Nat) (n : Int), 0 ≤ n → n < 128 ^ k * 2 → ∀ x ∈ shortNums k n, 0 ≤ x ∧ x < 256
  | 0, n, h0, h1, x, hx => by simp [shortNums] at hx; omega
  | k + 1, n, h0, h1, x, hx => by
    unfold shortNums at hx
    split at hx
    · rw [List.mem_cons] at hx
      rcases hx with rfl | hx
      · omega
      · exact shortNums_range k (n / 128) (by omega) (by rw [Int.pow_succ] at h1; omega) x hx
    · simp at hx; omega
theorem shortNums_pos : ∀ (k : Nat) (n : Int), 1 ≤ (shortNums k n).length
  | 0, _ => by simp [shortNums]
  | k + 1, n => by unfold shortNums; split <;> simp
/-! ### fixed numbers: their value, their order -/
def val : List Int → Int
  | [] => 0
  | x :: r => x * 256 ^ r.length + val r
theorem val_range : ∀ (l : List Int), (∀ x ∈ l, 0 ≤ x ∧ x < 256) → 0 ≤ val l ∧ val l < 256 ^ l.length
  | [], _ => by simp [val]
  | x :: r, h => by
    have hx := h x (by simp)
    have hr := val_range r (fun y hy => h y (by simp [hy]))
    have hp : (0 : Int) < 256 ^ r.length := Int.pow_pos (by decide)
    simp only [val, List.length_cons, Int.pow_succ]
    have h1 : 0 ≤ x * 256 ^ r.length := Int.mul_nonneg hx.1 (Int.le_of_lt hp)
    have h2 : x * 256 ^ r.length ≤ 255 * 256 ^ r.length := Int.mul_le_mul_of_nonneg_right (by omega) (Int.le_of_lt hp)
    omega
def ub (x : Int) : UInt8 := UInt8.ofNat x.toNat
theorem strOfNums_append (l m : List Int) : strOfNums l ++ strOfNums m = strOfNums (l ++ m) := by
  apply ByteArray.ext
  simp [strOfNums, ByteArray.data_append]
theorem fixedNums_range (n : Int) (h0 : 0 ≤ n) (h1 : n < 18446744073709551616) : ∀ x ∈ fixedNums n, 0 ≤ x ∧ x < 256 := by
  intro x hx
  simp only [fixedNums, List.mem_cons, List.not_mem_nil, or_false] at hx
  rcases hx with rfl | rfl | rfl | rfl | rfl | rfl | rfl | rfl <;> omega
theorem val_fixed (n : Int) : val (fixedNums n) = n := by
  simp only [fixedNums, val, List.length_cons, List.length_nil]
  omega
/-- The number that eight bytes tell. -/
def fixedVal (s : ByteArray) (a : Int) : Int := val [bt s a, bt s (a + 1), bt s (a + 2), bt s (a + 3), bt s (a + 4), bt s (a + 5), bt s (a + 6), bt s (a + 7)]
theorem fixedVal_range (s : ByteArray) (a : Int) : 0 ≤ fixedVal s a ∧ fixedVal s a < 18446744073709551616 := by
  have := val_range [bt s a, bt s (a + 1), bt s (a + 2), bt s (a + 3), bt s (a + 4), bt s (a + 5), bt s (a + 6), bt s (a + 7)] (by
    intro x hx
    simp only [List.mem_cons, List.not_mem_nil, or_false] at hx
    rcases hx with rfl | rfl | rfl | rfl | rfl | rfl | rfl | rfl <;> exact bt_lt _ _)
  unfold fixedVal
  simpa using this
/-- What a reader of a short number answers: it has just the number's bytes. -/
theorem rsl_sound (s : ByteArray) (was : Int) : ∀ (k i : Nat) (n r : Int) (s' : ByteArray) (at' : Int), k + i = 9 → was + i ≤ s.size →
    rsl s was (k + 1) (i : Int) n = some (r, s', at', 0) →
    s' = s ∧ ∃ m : Int, 0 ≤ m ∧ m < 128 ^ k * 2 ∧ (0 < i → 0 < m) ∧ r = n + m * 128 ^ i ∧ at' = was + i + (shortNums k m).length ∧ at' ≤ s.size ∧
      ∀ (j : Nat) (hj : j < (shortNums k m).length), bt s (was + i + (j : Int)) = (shortNums k m)[j] := by
  intro k
  induction k with
  | zero =>
    intro i n r s' at' hki hsz h
    have hb := bt_lt s (was + i)
    simp only [rsl] at h
    by_cases c1 : was + (i : Int) = (s.size : Int)
    · rw [if_pos c1] at h; simp at h
    rw [if_neg c1] at h
    by_cases c2 : ((i : Int) = 9 ∧ 1 < bt s (was + i)) ∨ (bt s (was + i) = 0 ∧ 0 < (i : Int))
    · rw [if_pos c2] at h; simp at h
    rw [if_neg c2] at h
    have hb1 : bt s (was + i) = 1 := by omega
    rw [if_pos (by omega)] at h
    simp only [Option.some.injEq, Prod.mk.injEq] at h
    obtain ⟨rfl, rfl, rfl, _⟩ := h
    refine ⟨rfl, 1, by omega, by omega, by omega, ?_, ?_, by omega, ?_⟩
    · rw [hb1]; simp [acc7]
    · simp [shortNums]
    · intro j hj
      have : j = 0 := by simp [shortNums] at hj; omega
      subst this
      simp [shortNums, hb1]
  | succ k ih =>
    intro i n r s' at' hki hsz h
    have hb := bt_lt s (was + i)
    rw [rsl] at h
    by_cases c1 : was + (i : Int) = (s.size : Int)
    · rw [if_pos c1] at h; simp at h
    rw [if_neg c1] at h
    by_cases c2 : ((i : Int) = 9 ∧ 1 < bt s (was + i)) ∨ (bt s (was + i) = 0 ∧ 0 < (i : Int))
    · rw [if_pos c2] at h; simp at h
    rw [if_neg c2] at h
    by_cases c3 : bt s (was + i) < 128
    · rw [if_pos c3] at h
      simp only [Option.some.injEq, Prod.mk.injEq] at h
      obtain ⟨rfl, rfl, rfl, _⟩ := h
      have hp : (1 : Int) ≤ 128 ^ k := Int.pow_pos (by decide)
      refine ⟨rfl, bt s (was + i), hb.1, by rw [Int.pow_succ]; omega, by omega, ?_, ?_, by omega, ?_⟩
      · unfold acc7; rw [Int.toNat_natCast, Int.emod_eq_of_lt hb.1 c3]
      · unfold shortNums; rw [if_neg (by omega)]; simp
      · intro j hj
        have e : shortNums (k + 1) (bt s (was + i)) = [bt s (was + i)] := by unfold shortNums; rw [if_neg (by omega)]
        have : j = 0 := by rw [e] at hj; simp at hj; omega
        subst this
        simp [e]
    · rw [if_neg c3] at h
      have hcast : (i : Int) + 1 = ((i + 1 : Nat) : Int) := by omega
      rw [hcast] at h
      obtain ⟨hs, m, hm0, hm1, hmp, hr, hat, hle, hbt⟩ := ih (i + 1) _ r s' at' (by omega) (by omega) h
      refine ⟨hs, bt s (was + i) % 128 + 128 * m, by omega, by rw [Int.pow_succ]; omega, by omega, ?_, ?_, hle, ?_⟩
      · rw [hr]
        unfold acc7
        rw [Int.toNat_natCast, Int.pow_succ, Int.add_mul, Int.mul_comm (128 ^ i) 128, Int.mul_comm 128 m, Int.mul_assoc]
        omega
      all_goals
        have hmp' := hmp (by omega)
        have e : shortNums (k + 1) (bt s (was + i) % 128 + 128 * m) = bt s (was + i) :: shortNums k m := by
          rw [shortNums]
          rw [if_pos (by omega)]
          congr 1
          · omega
          · congr 1
            omega
      · rw [e, hat]; simp only [List.length_cons]; omega
      · intro j hj
        simp only [e]
        cases j with
        | zero => simp
        | succ j =>
          have hj' : j < (shortNums k m).length := by rw [e] at hj; simpa using hj
          rw [List.getElem_cons_succ, ← hbt j hj']
          congr 1
          omega
theorem rsl_complete (s : ByteArray) (was : Int) : ∀ (k i : Nat) (n m : Int), k + i = 9 → 0 ≤ m → m < 128 ^ k * 2 → (0 < i → 0 < m) → was + i + (shortNums k m).length ≤ s.size →
    (∀ (j : Nat) (hj : j < (shortNums k m).length), bt s (was + i + (j : Int)) = (shortNums k m)[j]) →
    rsl s was (k + 1) (i : Int) n = some (n + m * 128 ^ i, s, was + i + (shortNums k m).length, 0) := by
  intro k
  induction k with
  | zero =>
    intro i n m hki hm0 hm1 hmp hsz h
    have e : shortNums 0 m = [m] := rfl
    have hb := h 0 (by simp [e])
    simp only [e, List.length_singleton, List.getElem_singleton] at hb hsz ⊢
    have hb' : bt s (was + i) = m := by rw [← hb]; congr 1; omega
    simp only [rsl]
    rw [if_neg (by omega), hb', if_neg (by omega), if_pos (by omega)]
    unfold acc7
    rw [Int.toNat_natCast, Int.emod_eq_of_lt hm0 (by omega)]
    simp
  | succ k ih =>
    intro i n m hki hm0 hm1 hmp hsz h
    by_cases c : 127 < m
    · have e : shortNums (k + 1) m = (m % 128 + 128) :: shortNums k (m / 128) := by rw [shortNums, if_pos c]
      have hb := h 0 (by simp [e])
      simp only [e, List.getElem_cons_zero, List.length_cons] at hb hsz ⊢
      have hb' : bt s (was + i) = m % 128 + 128 := by rw [← hb]; congr 1; omega
      have hm2 : m < 128 ^ k * 128 * 2 := by rw [← Int.pow_succ]; exact hm1
      rw [rsl, if_neg (by omega), hb', if_neg (by omega), if_neg (by omega)]
      have hcast : (i : Int) + 1 = ((i + 1 : Nat) : Int) := by omega
      rw [hcast, ih (i + 1) _ (m / 128) (by omega) (by omega) (by omega) (by omega) (by omega) (by
        intro j hj
        have := h (j + 1) (by rw [e]; simpa using hj)
        simp only [e, List.getElem_cons_succ] at this
        rw [← this]
        congr 1
        omega)]
      simp only [Option.some.injEq, Prod.mk.injEq, and_true, true_and]
      refine ⟨?_, by omega⟩
      unfold acc7
      rw [Int.toNat_natCast, Int.pow_succ]
      have hq : m = m % 128 + 128 * (m / 128) := by omega
      have h3 : (m % 128 + 128) % 128 = m % 128 := by omega
      rw [h3]
      have h4 : m * 128 ^ i = (m % 128) * 128 ^ i + 128 * (m / 128) * 128 ^ i := by rw [← Int.add_mul, ← hq]
      rw [h4, Int.mul_comm (128 ^ i) 128, ← Int.mul_assoc (m / 128), Int.mul_comm (m / 128) 128]
      omega
    · have e : shortNums (k + 1) m = [m] := by rw [shortNums, if_neg c]
      have hb := h 0 (by simp [e])
      simp only [e, List.length_singleton, List.getElem_singleton] at hb hsz ⊢
      have hb' : bt s (was + i) = m := by rw [← hb]; congr 1; omega
      rw [rsl, if_neg (by omega), hb', if_neg (by omega), if_pos (by omega)]
      unfold acc7
      rw [Int.toNat_natCast, Int.emod_eq_of_lt hm0 (by omega)]
      simp
/-- Whatever the bytes, a reader of a short number answers; with an error it stands where it stood. -/
theorem rsl_cases (s : ByteArray) (was : Int) : ∀ (k i : Nat) (n : Int), k + i = 9 →
    ∃ (n' at' e : Int), rsl s was (k + 1) (i : Int) n = some (n', s, at', e) ∧ (e = 0 ∨ (e = 20 ∨ e = 21) ∧ at' = was ∧ n' = 0) := by
  intro k
  induction k with
  | zero =>
    intro i n hki
    have hb := bt_lt s (was + i)
    simp only [rsl]
    by_cases c1 : was + (i : Int) = (s.size : Int)
    · rw [if_pos c1]; exact ⟨_, _, _, rfl, .inr ⟨.inl rfl, rfl, rfl⟩⟩
    rw [if_neg c1]
    by_cases c2 : ((i : Int) = 9 ∧ 1 < bt s (was + i)) ∨ (bt s (was + i) = 0 ∧ 0 < (i : Int))
    · rw [if_pos c2]; exact ⟨_, _, _, rfl, .inr ⟨.inr rfl, rfl, rfl⟩⟩
    rw [if_neg c2, if_pos (by omega)]
    exact ⟨_, _, _, rfl, .inl rfl⟩
  | succ k ih =>
    intro i n hki
    rw [rsl]
    by_cases c1 : was + (i : Int) = (s.size : Int)
    · rw [if_pos c1]; exact ⟨_, _, _, rfl, .inr ⟨.inl rfl, rfl, rfl⟩⟩
    rw [if_neg c1]
    by_cases c2 : ((i : Int) = 9 ∧ 1 < bt s (was + i)) ∨ (bt s (was + i) = 0 ∧ 0 < (i : Int))
    · rw [if_pos c2]; exact ⟨_, _, _, rfl, .inr ⟨.inr rfl, rfl, rfl⟩⟩
    rw [if_neg c2]
    by_cases c3 : bt s (was + i) < 128
    · rw [if_pos c3]; exact ⟨_, _, _, rfl, .inl rfl⟩
    · rw [if_neg c3]
      have hcast : (i : Int) + 1 = ((i + 1 : Nat) : Int) := by omega
      rw [hcast]
      exact ih (i + 1) _ (by omega)
/-- A short number that was read: its number, its bytes. -/
theorem rsl_read (s : ByteArray) (was : Int) (hw : 0 ≤ was) (hz : was ≤ s.size) (n' at' : Int) (h : rsl s was 10 0 0 = some (n', s, at', 0)) :
    0 ≤ n' ∧ n' < 18446744073709551616 ∧ at' = was + (shortNums 9 n').length ∧ at' ≤ s.size ∧ s.extract was.toNat at'.toNat = strOfNums (shortNums 9 n') := by
  obtain ⟨_, m, h0, h1, _, hr, hat, hle, hb⟩ := rsl_sound s was 9 0 0 n' s at' (by omega) (by simpa using hz) (by simpa using h)
  have hm : n' = m := by rw [hr]; simp
  subst hm
  refine ⟨h0, by omega, by omega, hle, ?_⟩
  have e := extract_nums s was.toNat (shortNums 9 n') (shortNums_range 9 n' h0 h1) (by omega) (by
    intro j hj
    rw [← hb j hj]
    congr 1
    omega)
  rw [← e]
  congr 1
  omega
/-- What was written is read. -/
theorem rsl_write (s : ByteArray) (was : Int) (n : Int) (h0 : 0 ≤ n) (h1 : n < 18446744073709551616) (hz : was + (shortNums 9 n).length ≤ s.size)
    (hb : ∀ (j : Nat) (hj : j < (shortNums 9 n).length), bt s (was + (j : Int)) = (shortNums 9 n)[j]) : rsl s was 10 0 0 = some (n, s, was + (shortNums 9 n).length, 0) := by
  have := rsl_complete s was 9 0 0 n (by omega) h0 (by omega) (by omega) (by omega) (by intro j hj; rw [← hb j hj]; congr 1; omega)
  simpa using this
end Go.Proofs.YtofdpgcnconibaaGreatDoor.Plain
/-! What pack's reader answers, in plain words, of a reader that stands in its text. -/
namespace Go.Proofs.YtofdpgcnconibaaGreatDoor.PackP
open Go.RowKit Go.Proofs.YtofdpgcnconibaaGreatDoor.PA Go.Proofs.YtofdpgcnconibaaGreatDoorW.PrintWords Go.Proofs.YtofdpgcnconibaaGreatDoorW.PrintLast Go.Proofs.YtofdpgcnconibaaGreatDoorW.PrintMore
open Go.Proofs.YtofdpgcnconibaaGreatDoor.Plain

def E : ByteArray := ⟨#[]⟩
theorem w64 (x : Int) (h0 : -9223372036854775808 ≤ x) (h1 : x ≤ 9223372036854775807) : wrap64 x = x := by unfold wrap64; omega
theorem u64 (x : Int) (h0 : 0 ≤ x) (h1 : x ≤ 9223372036854775807) : IntKind.u64.wrap x = x := by rw [wrap_u64]; omega
section
variable (s : ByteArray) (a : Int) (h0 : 0 ≤ a) (h1 : a ≤ s.size) (h2 : s.size ≤ 4611686018427387904)
include h0 h1 h2
theorem take_ok (n : Int) (hn0 : 0 ≤ n) (hn : n ≤ s.size - a) : pack_Reader_take.f s a 0 n = some (s.extract a.toNat (a + n).toNat, s, a + n, 0) := by
  unfold pack_Reader_take.f pack_Reader_fails.f
  simp only [Option.bind_some]
  rw [if_neg (by decide)]
  rw [w64 ((s.size : Int) - a) (by omega) (by omega), w64 (a + n) (by omega) (by omega), w64 (a + n - n) (by omega) (by omega)]
  rw [if_neg (by omega), if_pos (by omega), if_pos (by omega), if_pos (by omega)]
  congr 3
  omega
theorem take_short (n : Int) (hn : n > s.size - a) : pack_Reader_take.f s a 0 n = some (E, s, a, 20) := by
  unfold pack_Reader_take.f pack_Reader_fails.f
  simp only [Option.bind_some]
  rw [if_neg (by decide), w64 ((s.size : Int) - a) (by omega) (by omega), if_pos (by omega)]
  rfl
theorem short_ok : pack_Reader_Short.f s a 0 = rsl s a 10 0 0 := by
  unfold pack_Reader_Short.f
  rw [if_pos rfl, if_pos ⟨h0, h1, by omega⟩]
theorem byte_ok (h : a < s.size) : pack_Reader_Byte.f s a 0 = some (bt s a, s, a + 1, 0) := by
  unfold pack_Reader_Byte.f
  rw [take_ok s a h0 h1 h2 1 (by omega) (by omega)]
  simp only [Option.bind_some]
  have hz : (s.extract a.toNat (a + 1).toNat).size = 1 := by rw [ByteArray.size_extract]; omega
  rw [if_neg (by
    intro e
    have : (s.extract a.toNat (a + 1).toNat).toList.length = 1 := by rw [ByteArray.toList_eq]; exact hz
    rw [e] at this
    simp at this), if_pos (by omega)]
  have := bt_extract s a.toNat (a + 1).toNat 0 (by omega)
  have e2 : ((a.toNat + 0 : Nat) : Int) = a := by omega
  rw [e2] at this
  rw [show (0 : Int) = ((0 : Nat) : Int) from rfl, this]
theorem byte_end (h : a = s.size) : pack_Reader_Byte.f s a 0 = some (0, s, a, 20) := by
  unfold pack_Reader_Byte.f
  rw [take_short s a h0 h1 h2 1 (by omega)]
  simp only [Option.bind_some]
  rw [if_pos (by rw [ByteArray.toList_eq]; rfl)]
end
theorem wstep (v b : Int) (hv0 : 0 ≤ v) (hv : v < 72057594037927936) (hb0 : 0 ≤ b) (hb : b < 256) : IntKind.u64.wrap (IntKind.u64.wrap (v * 256) + IntKind.u64.wrap b) = v * 256 + b := by
  rw [wrap_u64, wrap_u64, wrap_u64, Int.emod_eq_of_lt (a := v * 256) (by omega) (by omega), Int.emod_eq_of_lt (a := b) (by omega) (by omega), Int.emod_eq_of_lt (by omega) (by omega)]
theorem fixed_step (k : Nat) (n : Int) (t : ByteArray) (i : Int) (s : ByteArray) (a e : Int) (ht : t.size = 8) (h0 : 0 ≤ i) (h : i < 8) (hn0 : 0 ≤ n) (hn : n < 72057594037927936) :
    pack_Reader_Fixed.l0 (k + 1) n t 8 i s a e = pack_Reader_Fixed.l0 k (n * 256 + bt t i) t 8 (i + 1) s a e := by
  have hbt := bt_lt t i
  rw [pack_Reader_Fixed.l0, if_pos h, if_pos h0, if_pos (by omega), wstep n _ hn0 hn hbt.1 hbt.2, w64 (i + 1) (by omega) (by omega)]
theorem fixed_stop (k : Nat) (n : Int) (t : ByteArray) (s : ByteArray) (a e : Int) : pack_Reader_Fixed.l0 (k + 1) n t 8 8 s a e = some (n, s, a, e) := by
  rw [pack_Reader_Fixed.l0, if_neg (by decide)]
theorem fixed_loop (t s : ByteArray) (a e : Int) (ht : t.size = 8) (k : Nat) (hk : 8 < k) :
    pack_Reader_Fixed.l0 k 0 t 8 0 s a e = some (val [bt t 0, bt t 1, bt t 2, bt t 3, bt t 4, bt t 5, bt t 6, bt t 7], s, a, e) := by
  obtain ⟨k, rfl⟩ : ∃ m, k = m + 9 := ⟨k - 9, by omega⟩
  have b0 := bt_lt t 0; have b1 := bt_lt t 1; have b2 := bt_lt t 2; have b3 := bt_lt t 3
  have b4 := bt_lt t 4; have b5 := bt_lt t 5; have b6 := bt_lt t 6; have b7 := bt_lt t 7
  simp only [val, List.length_cons, List.length_nil]
  generalize hx0 : bt t 0 = x0 at *
  generalize hx1 : bt t 1 = x1 at *
  generalize hx2 : bt t 2 = x2 at *
  generalize hx3 : bt t 3 = x3 at *
  generalize hx4 : bt t 4 = x4 at *
  generalize hx5 : bt t 5 = x5 at *
  generalize hx6 : bt t 6 = x6 at *
  generalize hx7 : bt t 7 = x7 at *
  rw [fixed_step (k + 8) _ t 0 s a e ht (by omega) (by omega) (by omega) (by omega), hx0, show (0 : Int) + 1 = 1 from rfl]
  rw [fixed_step (k + 7) _ t 1 s a e ht (by omega) (by omega) (by omega) (by omega), hx1, show (1 : Int) + 1 = 2 from rfl]
  rw [fixed_step (k + 6) _ t 2 s a e ht (by omega) (by omega) (by omega) (by omega), hx2, show (2 : Int) + 1 = 3 from rfl]
  rw [fixed_step (k + 5) _ t 3 s a e ht (by omega) (by omega) (by omega) (by omega), hx3, show (3 : Int) + 1 = 4 from rfl]
  rw [fixed_step (k + 4) _ t 4 s a e ht (by omega) (by omega) (by omega) (by omega), hx4, show (4 : Int) + 1 = 5 from rfl]
  rw [fixed_step (k + 3) _ t 5 s a e ht (by omega) (by omega) (by omega) (by omega), hx5, show (5 : Int) + 1 = 6 from rfl]
  rw [fixed_step (k + 2) _ t 6 s a e ht (by omega) (by omega) (by omega) (by omega), hx6, show (6 : Int) + 1 = 7 from rfl]
  rw [fixed_step (k + 1) _ t 7 s a e ht (by omega) (by omega) (by omega) (by omega), hx7, show (7 : Int) + 1 = 8 from rfl, fixed_stop]
  congr 2
  omega
section
variable (s : ByteArray) (a : Int) (h0 : 0 ≤ a) (h1 : a ≤ s.size) (h2 : s.size ≤ 4611686018427387904) (k : Nat)
include h0 h1 h2
theorem fixed_ok (hk : 8 < k) (h : 8 ≤ s.size - a) : pack_Reader_Fixed.f k s a 0 = some (fixedVal s a, s, a + 8, 0) := by
  unfold pack_Reader_Fixed.f
  rw [take_ok s a h0 h1 h2 8 (by omega) (by omega)]
  simp only [Option.bind_some]
  have hz : (s.extract a.toNat (a + 8).toNat).size = 8 := by rw [ByteArray.size_extract]; omega
  have := fixed_loop (s.extract a.toNat (a + 8).toNat) s (a + 8) 0 hz k hk
  rw [hz]
  have hb : ∀ i : Nat, i < 8 → bt (s.extract a.toNat (a + 8).toNat) (i : Int) = bt s (a + i) := by
    intro i hi
    rw [bt_extract s a.toNat (a + 8).toNat i (by omega)]
    congr 1
    omega
  rw [show ((8 : Nat) : Int) = 8 from rfl, this]
  unfold fixedVal
  have e0 : bt (s.extract a.toNat (a + 8).toNat) 0 = bt s a := by have := hb 0 (by omega); simpa using this
  have e1 : bt (s.extract a.toNat (a + 8).toNat) 1 = bt s (a + 1) := hb 1 (by omega)
  have e2 : bt (s.extract a.toNat (a + 8).toNat) 2 = bt s (a + 2) := hb 2 (by omega)
  have e3 : bt (s.extract a.toNat (a + 8).toNat) 3 = bt s (a + 3) := hb 3 (by omega)
  have e4 : bt (s.extract a.toNat (a + 8).toNat) 4 = bt s (a + 4) := hb 4 (by omega)
  have e5 : bt (s.extract a.toNat (a + 8).toNat) 5 = bt s (a + 5) := hb 5 (by omega)
  have e6 : bt (s.extract a.toNat (a + 8).toNat) 6 = bt s (a + 6) := hb 6 (by omega)
  have e7 : bt (s.extract a.toNat (a + 8).toNat) 7 = bt s (a + 7) := hb 7 (by omega)
  rw [e0, e1, e2, e3, e4, e5, e6, e7]
theorem fixed_short (hk : 0 < k) (h : s.size - a < 8) : pack_Reader_Fixed.f k s a 0 = some (0, s, a, 20) := by
  unfold pack_Reader_Fixed.f
  rw [take_short s a h0 h1 h2 8 (by omega)]
  simp only [Option.bind_some]
  obtain ⟨k, rfl⟩ : ∃ m, k = m + 1 := ⟨k - 1, by omega⟩
  rw [pack_Reader_Fixed.l0, if_neg (by decide)]
theorem text_err (most n' at' e : Int) (hr : rsl s a 10 0 0 = some (n', s, at', e)) (he : e ≠ 0) : pack_Reader_Text.f k s a 0 most = some (E, s, a, e) := by
  unfold pack_Reader_Text.f pack_Reader_fails.f
  simp only [Option.bind_some]
  rw [if_neg (by decide), short_ok s a h0 h1 h2, hr]
  simp only [Option.bind_some]
  rw [if_neg he]
  rfl
theorem text_long (hk : 0 < k) (most n' at' : Int) (hm : -9223372036854775808 ≤ most ∧ most ≤ 9223372036854775807) (hr : rsl s a 10 0 0 = some (n', s, at', 0)) (hl : most < 0 ∨ n' > most) : pack_Reader_Text.f k s a 0 most = some (E, s, a, 22) := by
  unfold pack_Reader_Text.f pack_Reader_fails.f
  simp only [Option.bind_some]
  rw [if_neg (by decide), short_ok s a h0 h1 h2, hr]
  simp only [Option.bind_some]
  rw [if_pos trivial]
  obtain ⟨k, rfl⟩ : ∃ m, k = m + 1 := ⟨k - 1, by omega⟩
  by_cases c : most < 0
  · rw [if_pos c, pack_Reader_Text.j0, if_pos rfl]; rfl
  · rw [if_neg c, pack_Reader_Text.j0, u64 most (by omega) (by omega), if_pos (decide_eq_true (by omega))]; rfl
theorem text_short (hk : 0 < k) (most n' at' : Int) (hm : -9223372036854775808 ≤ most ∧ most ≤ 9223372036854775807) (hr : rsl s a 10 0 0 = some (n', s, at', 0)) (hl : 0 ≤ most ∧ n' ≤ most) (hs : n' > s.size - at') : pack_Reader_Text.f k s a 0 most = some (E, s, a, 20) := by
  obtain ⟨hn0, hn1, hat, hle, _⟩ := rsl_read s a h0 h1 n' at' hr
  unfold pack_Reader_Text.f pack_Reader_fails.f
  simp only [Option.bind_some]
  rw [if_neg (by decide), short_ok s a h0 h1 h2, hr]
  simp only [Option.bind_some]
  rw [if_pos trivial]
  obtain ⟨k, rfl⟩ : ∃ m, k = m + 1 := ⟨k - 1, by omega⟩
  rw [if_neg (by omega), pack_Reader_Text.j0, u64 most (by omega) (by omega), if_neg (by simp; omega), w64 _ (by omega) (by omega), u64 _ (by omega) (by omega), if_pos (by omega)]
  rfl
theorem text_ok (hk : 0 < k) (most n' at' : Int) (hm : -9223372036854775808 ≤ most ∧ most ≤ 9223372036854775807) (hr : rsl s a 10 0 0 = some (n', s, at', 0)) (hl : 0 ≤ most ∧ n' ≤ most) (hs : n' ≤ s.size - at') : pack_Reader_Text.f k s a 0 most = some (s.extract at'.toNat (at' + n').toNat, s, at' + n', 0) := by
  obtain ⟨hn0, hn1, hat, hle, _⟩ := rsl_read s a h0 h1 n' at' hr
  unfold pack_Reader_Text.f pack_Reader_fails.f
  simp only [Option.bind_some]
  rw [if_neg (by decide), short_ok s a h0 h1 h2, hr]
  simp only [Option.bind_some]
  rw [if_pos trivial]
  obtain ⟨k, rfl⟩ : ∃ m, k = m + 1 := ⟨k - 1, by omega⟩
  rw [if_neg (by omega), pack_Reader_Text.j0, u64 most (by omega) (by omega), if_neg (by simp; omega), w64 ((s.size : Int) - at') (by omega) (by omega), u64 _ (by omega) (by omega), if_neg (by omega), w64 n' (by omega) (by omega),
    take_ok s at' (by omega) hle h2 n' hn0 hs]
  rfl
end
end Go.Proofs.YtofdpgcnconibaaGreatDoor.PackP
/-! A reader that stands ahead of a number's or a text's bytes reads them. -/
namespace Go.Proofs.YtofdpgcnconibaaGreatDoor.PackP
open Go.RowKit Go.Proofs.YtofdpgcnconibaaGreatDoor.PA Go.Proofs.YtofdpgcnconibaaGreatDoorW.PrintWords Go.Proofs.YtofdpgcnconibaaGreatDoorW.PrintLast Go.Proofs.YtofdpgcnconibaaGreatDoorW.PrintMore
open Go.Proofs.YtofdpgcnconibaaGreatDoor.Plain

/-- Of three parts the middle one's bytes stand behind the first one's. -/
theorem mid_bt (u v w : ByteArray) (i : Nat) (h : i < v.size) : bt (u ++ v ++ w) ((u.size : Int) + (i : Int)) = bt v (i : Int) := by
  have e : (u.size : Int) + (i : Int) = ((u.size + i : Nat) : Int) := by omega
  rw [e, bt_append_left (u ++ v) w (u.size + i) (by rw [ByteArray.size_append]; omega), bt_append_right u v i h]
theorem mid_size (u v w : ByteArray) : (u ++ v ++ w).size = u.size + v.size + w.size := by rw [ByteArray.size_append, ByteArray.size_append]
theorem mid_extract (u v w : ByteArray) (a b : Nat) (ha : a = u.size) (hb : b = u.size + v.size) : (u ++ v ++ w).extract a b = v := by
  subst ha hb
  have hz : ((u ++ v ++ w).extract u.size (u.size + v.size)).size = v.size := by rw [ByteArray.size_extract, mid_size]; omega
  apply ba_ext _ _ hz
  intro i hi
  rw [bt_extract _ _ _ i hi, ← mid_bt u v w i (by omega)]
  congr 1
theorem mid_nums (u w : ByteArray) (l : List Int) (hl : ∀ x ∈ l, 0 ≤ x ∧ x < 256) (j : Nat) (hj : j < l.length) : bt (u ++ strOfNums l ++ w) ((u.size : Int) + (j : Int)) = l[j] := by
  rw [mid_bt u _ w j (by rw [strOfNums_size]; exact hj), bt_strOfNums l hl j hj]
section
variable (u w : ByteArray) (n : Int) (h0 : 0 ≤ n) (h1 : n < 18446744073709551616)
include h0 h1
theorem at_fixedVal : fixedVal (u ++ strOfNums (fixedNums n) ++ w) (u.size : Int) = n := by
  have r := fixedNums_range n h0 h1
  have g : ∀ (j : Nat) (hj : j < (fixedNums n).length), bt (u ++ strOfNums (fixedNums n) ++ w) ((u.size : Int) + (j : Int)) = (fixedNums n)[j] := mid_nums u w _ r
  have hL : (fixedNums n).length = 8 := rfl
  have g0 := g 0 (by omega)
  rw [show ((u.size : Int) + ((0 : Nat) : Int)) = (u.size : Int) by omega] at g0
  have g1 := g 1 (by omega); have g2 := g 2 (by omega); have g3 := g 3 (by omega); have g4 := g 4 (by omega)
  have g5 := g 5 (by omega); have g6 := g 6 (by omega); have g7 := g 7 (by omega)
  unfold fixedVal
  rw [g0]
  rw [show (u.size : Int) + 1 = (u.size : Int) + ((1 : Nat) : Int) from rfl, g1]
  rw [show (u.size : Int) + 2 = (u.size : Int) + ((2 : Nat) : Int) from rfl, g2]
  rw [show (u.size : Int) + 3 = (u.size : Int) + ((3 : Nat) : Int) from rfl, g3]
  rw [show (u.size : Int) + 4 = (u.size : Int) + ((4 : Nat) : Int) from rfl, g4]
  rw [show (u.size : Int) + 5 = (u.size : Int) + ((5 : Nat) : Int) from rfl, g5]
  rw [show (u.size : Int) + 6 = (u.size : Int) + ((6 : Nat) : Int) from rfl, g6]
  rw [show (u.size : Int) + 7 = (u.size : Int) + ((7 : Nat) : Int) from rfl, g7]
  exact val_fixed n
theorem at_fixed (k : Nat) (hk : 8 < k) (s : ByteArray) (a : Int) (hs : s = u ++ strOfNums (fixedNums n) ++ w) (ha : a = (u.size : Int)) (h2 : s.size ≤ 4611686018427387904) :
    pack_Reader_Fixed.f k s a 0 = some (n, s, a + 8, 0) := by
  have hz : s.size = u.size + 8 + w.size := by rw [hs, mid_size, strOfNums_size]; rfl
  rw [fixed_ok s a (by omega) (by omega) h2 k hk (by omega)]
  have := at_fixedVal u w n h0 h1
  rw [← hs, ← ha] at this
  rw [this]
theorem at_rsl (s : ByteArray) (a : Int) (hs : s = u ++ strOfNums (shortNums 9 n) ++ w) (ha : a = (u.size : Int)) :
    rsl s a 10 0 0 = some (n, s, a + (shortNums 9 n).length, 0) := by
  have hz : s.size = u.size + (shortNums 9 n).length + w.size := by rw [hs, mid_size, strOfNums_size]
  refine rsl_write s a n h0 h1 (by omega) ?_
  intro j hj
  rw [hs, ha]
  exact mid_nums u w _ (shortNums_range 9 n h0 (by omega)) j hj
theorem at_short (s : ByteArray) (a : Int) (hs : s = u ++ strOfNums (shortNums 9 n) ++ w) (ha : a = (u.size : Int)) (h2 : s.size ≤ 4611686018427387904) :
    pack_Reader_Short.f s a 0 = some (n, s, a + (shortNums 9 n).length, 0) := by
  have hz : s.size = u.size + (shortNums 9 n).length + w.size := by rw [hs, mid_size, strOfNums_size]
  rw [short_ok s a (by omega) (by omega) h2]
  exact at_rsl u w n h0 h1 s a hs ha
end
theorem at_text (u w t : ByteArray) (k : Nat) (hk : 0 < k) (s : ByteArray) (a : Int) (hs : s = u ++ (strOfNums (shortNums 9 t.size) ++ t) ++ w) (ha : a = (u.size : Int)) (h2 : s.size ≤ 4611686018427387904) (most : Int) (hm : (t.size : Int) ≤ most ∧ most ≤ 9223372036854775807) :
    pack_Reader_Text.f k s a 0 most = some (t, s, a + (shortNums 9 t.size).length + t.size, 0) := by
  have hz : s.size = u.size + ((shortNums 9 t.size).length + t.size) + w.size := by rw [hs, mid_size, ByteArray.size_append, strOfNums_size]
  have hr := at_rsl u (t ++ w) t.size (by omega) (by omega) s a (by rw [hs]; simp only [ByteArray.append_assoc]) ha
  rw [text_ok s a (by omega) (by omega) h2 k hk most t.size _ ⟨by omega, hm.2⟩ hr ⟨by omega, hm.1⟩ (by omega)]
  have := mid_extract (u ++ strOfNums (shortNums 9 t.size)) t w (a + (shortNums 9 t.size).length).toNat (a + (shortNums 9 t.size).length + t.size).toNat (by rw [ByteArray.size_append, strOfNums_size]; omega) (by rw [ByteArray.size_append, strOfNums_size]; omega)
  rw [show u ++ strOfNums (shortNums 9 t.size) ++ t ++ w = s by rw [hs]; simp only [ByteArray.append_assoc]] at this
  rw [this]
end Go.Proofs.YtofdpgcnconibaaGreatDoor.PackP
/-! coppiceref02's reader of fixed numbers. -/
namespace Go.Proofs.YtofdpgcnconibaaGreatDoor.Ref02P
open Go.RowKit Go.Proofs.YtofdpgcnconibaaGreatDoor.PA Go.Proofs.YtofdpgcnconibaaGreatDoorW.PrintWords Go.Proofs.YtofdpgcnconibaaGreatDoorW.PrintLast Go.Proofs.YtofdpgcnconibaaGreatDoorW.PrintMore
open Go.Proofs.YtofdpgcnconibaaGreatDoor.Plain
theorem or_step (v b : Int) (hv0 : 0 ≤ v) (hv : v < 72057594037927936) (hb0 : 0 ≤ b) (hb : b < 256) : Go.bits .or .u64 (IntKind.u64.wrap (v * 256)) (IntKind.u64.wrap b) = v * 256 + b := by
  rw [wrap_u64, wrap_u64, Int.emod_eq_of_lt (a := v * 256) (by omega) (by omega), Int.emod_eq_of_lt (a := b) (by omega) (by omega)]
  exact bits_join .u64 64 (by decide) wraps_u64 8 (v * 256) b (by omega) (by omega) (by omega) hb0 (by omega) (by omega)
theorem rfixed_step (k : Nat) (n i e : Int) (s : ByteArray) (hs : 8 ≤ s.size) (h0 : 0 ≤ i) (h : i < 8) (hn0 : 0 ≤ n) (hn : n < 72057594037927936) :
    coppiceref02_Reader_Fixed.l0 (k + 1) n i s e = coppiceref02_Reader_Fixed.l0 k (n * 256 + bt s i) (i + 1) s e := by
  have hbt := bt_lt s i
  have e1 : wrap64 (i + 1) = i + 1 := by unfold wrap64; omega
  rw [coppiceref02_Reader_Fixed.l0, if_pos h, if_pos h0, if_pos (by omega), or_step n _ hn0 hn hbt.1 hbt.2, e1]
theorem rfixed_ok (s : ByteArray) (hs : 8 ≤ s.size) (k : Nat) (hk : 8 < k) : coppiceref02_Reader_Fixed.f k s 0 = some (fixedVal s 0, s.extract 8 s.size, 0) := by
  obtain ⟨k, rfl⟩ : ∃ m, k = m + 9 := ⟨k - 9, by omega⟩
  unfold coppiceref02_Reader_Fixed.f
  rw [if_pos rfl, if_neg (by omega)]
  have b0 := bt_lt s 0; have b1 := bt_lt s 1; have b2 := bt_lt s 2; have b3 := bt_lt s 3
  have b4 := bt_lt s 4; have b5 := bt_lt s 5; have b6 := bt_lt s 6; have b7 := bt_lt s 7
  unfold fixedVal
  simp only [Int.zero_add, val, List.length_cons, List.length_nil]
  generalize hx0 : bt s 0 = x0 at *
  generalize hx1 : bt s 1 = x1 at *
  generalize hx2 : bt s 2 = x2 at *
  generalize hx3 : bt s 3 = x3 at *
  generalize hx4 : bt s 4 = x4 at *
  generalize hx5 : bt s 5 = x5 at *
  generalize hx6 : bt s 6 = x6 at *
  generalize hx7 : bt s 7 = x7 at *
  rw [rfixed_step (k + 8) _ 0 0 s hs (by omega) (by omega) (by omega) (by omega), hx0, show (0 : Int) + 1 = 1 from rfl]
  rw [rfixed_step (k + 7) _ 1 0 s hs (by omega) (by omega) (by omega) (by omega), hx1, show (1 : Int) + 1 = 2 from rfl]
  rw [rfixed_step (k + 6) _ 2 0 s hs (by omega) (by omega) (by omega) (by omega), hx2, show (2 : Int) + 1 = 3 from rfl]
  rw [rfixed_step (k + 5) _ 3 0 s hs (by omega) (by omega) (by omega) (by omega), hx3, show (3 : Int) + 1 = 4 from rfl]
  rw [rfixed_step (k + 4) _ 4 0 s hs (by omega) (by omega) (by omega) (by omega), hx4, show (4 : Int) + 1 = 5 from rfl]
  rw [rfixed_step (k + 3) _ 5 0 s hs (by omega) (by omega) (by omega) (by omega), hx5, show (5 : Int) + 1 = 6 from rfl]
  rw [rfixed_step (k + 2) _ 6 0 s hs (by omega) (by omega) (by omega) (by omega), hx6, show (6 : Int) + 1 = 7 from rfl]
  rw [rfixed_step (k + 1) _ 7 0 s hs (by omega) (by omega) (by omega) (by omega), hx7, show (7 : Int) + 1 = 8 from rfl]
  rw [coppiceref02_Reader_Fixed.l0, if_neg (by decide), if_pos (by omega)]
  congr 2
  omega
theorem rfixed_short (s : ByteArray) (hs : ¬ 8 ≤ s.size) (k : Nat) : coppiceref02_Reader_Fixed.f k s 0 = some (0, s, 20) := by
  unfold coppiceref02_Reader_Fixed.f
  rw [if_pos rfl, if_pos (by omega)]
end Go.Proofs.YtofdpgcnconibaaGreatDoor.Ref02P
/-! pack's reader and the document's one answer alike: what is left to the document's reader is what stands behind the place of pack's. -/
namespace Go.Proofs.YtofdpgcnconibaaGreatDoor.SimP
open Go.RowKit Go.Proofs.YtofdpgcnconibaaGreatDoor.PA Go.Proofs.YtofdpgcnconibaaGreatDoorW.PrintWords Go.Proofs.YtofdpgcnconibaaGreatDoorW.PrintLast Go.Proofs.YtofdpgcnconibaaGreatDoorW.PrintMore
open Go.Proofs.YtofdpgcnconibaaGreatDoor.Plain Go.Proofs.YtofdpgcnconibaaGreatDoor.PackP
open Go.Proofs.YtofdpgcnconibaaGreatDoor.Ref02P

set_option linter.unusedSectionVars false
structure Sim (s : ByteArray) (a : Int) (R : ByteArray) : Prop where
  h0 : 0 ≤ a
  h1 : a ≤ s.size
  hR : R = s.extract a.toNat s.size
theorem Sim.size {s : ByteArray} {a : Int} {R : ByteArray} (h : Sim s a R) : a + (R.size : Int) = (s.size : Int) := by
  have h0 := h.h0; have h1 := h.h1
  rw [h.hR, ByteArray.size_extract]; omega
theorem Sim.bt {s : ByteArray} {a : Int} {R : ByteArray} (h : Sim s a R) (j : Nat) (hj : j < R.size) : bt R (j : Int) = bt s (a + j) := by
  have h0 := h.h0
  have hR := h.hR
  subst hR
  rw [bt_extract s _ _ j hj]
  congr 1
  omega
theorem Sim.start (s : ByteArray) : Sim s 0 s := ⟨by omega, by omega, by
  show s = s.extract 0 s.size
  rw [ByteArray.extract_zero_size]⟩
theorem Sim.go {s : ByteArray} {a : Int} {R : ByteArray} (h : Sim s a R) (d : Nat) (hd : d ≤ R.size) : Sim s (a + d) (R.extract d R.size) := by
  have h0 := h.h0; have h1 := h.h1; have hz := h.size
  refine ⟨by omega, by omega, ?_⟩
  have z1 : (R.extract d R.size).size = R.size - d := by rw [ByteArray.size_extract]; omega
  have z2 : (s.extract (a + d).toNat s.size).size = R.size - d := by rw [ByteArray.size_extract]; omega
  apply ba_ext _ _ (by omega)
  intro i hi
  rw [bt_extract R d R.size i hi, bt_extract s (a + d).toNat s.size i (by omega), h.bt (d + i) (by omega)]
  congr 1
  omega
/-- Both readers answer alike: the same value, the same error; where there is none, the bytes that were read are the value's. -/
def Both {α : Type} (s : ByteArray) (a e : Int) (w : α → ByteArray) (P : α → Prop) (p : Option (α × ByteArray × Int × Int)) (q : Option (α × ByteArray × Int)) : Prop :=
  ∃ v a' e' R', p = some (v, s, a', e') ∧ q = some (v, R', e') ∧ Sim s a' R' ∧ P v ∧ (e' = 0 → e = 0 ∧ a ≤ a' ∧ s.extract a.toNat a'.toNat = w v)
theorem take_err (s : ByteArray) (a e n : Int) (he : e ≠ 0) : pack_Reader_take.f s a e n = some (PackP.E, s, a, e) := by
  unfold pack_Reader_take.f pack_Reader_fails.f
  rw [Option.bind_some, if_pos (bne_iff_ne.mpr he)]
  rfl
section
variable (k : Nat) (R : ByteArray) (n : Int) (i : Nat) (hi : i < 10) (hR : R.size ≤ 4611686018427387904) (hn0 : 0 ≤ n) (hn : n < 128 ^ i)
theorem scan_end (hi : i < 10) (hz : R.size ≤ i) : coppiceref02_scan.l0 (k + 1) R n (i : Int) = some (0, 0, 20) := by
  rw [coppiceref02_scan.l0, if_pos (show (i : Int) < 10 by omega), if_pos (show (i : Int) ≥ (R.size : Int) by omega)]
include hi hR in
theorem scan_in (hz : i < R.size) : coppiceref02_scan.l0 (k + 1) R n (i : Int) = coppiceref02_scan.j1 k R n (i : Int) (bt R (i : Int)) (decide (i = 9 ∧ bt R (i : Int) > 1)) := by
  rw [coppiceref02_scan.l0, if_pos (show (i : Int) < 10 by omega), if_neg (show ¬ (i : Int) ≥ (R.size : Int) by omega), if_pos (show 0 ≤ (i : Int) by omega), if_pos (show (i : Int) < (R.size : Int) by omega)]
  by_cases c : (i : Int) = 9
  · rw [if_pos c, show decide (i = 9 ∧ bt R (i : Int) > 1) = decide (bt R (i : Int) > 1) from decide_eq_decide.2 (by omega)]
  · rw [if_neg c, decide_eq_false (by omega)]
include hi in
theorem acc_ok (b : Int) (hb : 0 ≤ b ∧ b < 256) (h9 : i = 9 → b ≤ 1) (hn0 : 0 ≤ n) (hn : n < 128 ^ i) : Go.bits .or .u64 n (shl .u64 (IntKind.u64.wrap (Go.bits .and .u8 b 127)) (wrap64 (7 * (i : Int)))) = acc7 n b (i : Int) := by
  rw [and127 _ hb.1 hb.2, wrap_u64, Int.emod_eq_of_lt (b := 18446744073709551616) (by omega) (by omega), show wrap64 (7 * (i : Int)) = 7 * (i : Int) by unfold wrap64; omega]
  exact acc7_of n b (i : Int) (by omega) (by omega) hn0 (by simpa using hn) hb.1 hb.2 (by intro h; exact h9 (by omega))
include hi in
theorem scan_j (b : Int) (hb : 0 ≤ b ∧ b < 256) (hn0 : 0 ≤ n) (hn : n < 128 ^ i) :
    coppiceref02_scan.j1 (k + 1) R n (i : Int) b (decide (i = 9 ∧ b > 1)) = if (i = 9 ∧ b > 1) ∨ (b = 0 ∧ 0 < i) then some (0, 0, 21) else if b < 128 then some (acc7 n b (i : Int), (i : Int) + 1, 0) else coppiceref02_scan.l0 k R (acc7 n b (i : Int)) ((i + 1 : Nat) : Int) := by
  have e7 : wrap64 (7 * (i : Int)) = 7 * (i : Int) := by unfold wrap64; omega
  have e1 : wrap64 ((i : Int) + 1) = (i : Int) + 1 := by unfold wrap64; omega
  rw [coppiceref02_scan.j1]
  by_cases c1 : i = 9 ∧ b > 1
  · rw [if_pos (decide_eq_true c1), if_pos (.inl c1)]
  have hacc := acc_ok n i hi b hb (by intro h; omega) hn0 hn
  rw [if_neg (show ¬ (decide (i = 9 ∧ b > 1) = true) by rw [decide_eq_true_eq]; exact c1), hacc, e1, e7, if_pos (show 0 ≤ 7 * (i : Int) by omega)]
  by_cases c2 : b = 0
  · rw [if_pos (show b < 128 by omega), if_pos c2]
    by_cases c3 : 0 < i
    · rw [if_pos (show (i : Int) > 0 by omega), if_pos (.inr ⟨c2, c3⟩)]
    · rw [if_neg (show ¬ (i : Int) > 0 by omega), if_neg (by omega), if_pos (show b < 128 by omega)]
  · rw [if_neg (show ¬ ((i = 9 ∧ b > 1) ∨ (b = 0 ∧ 0 < i)) by omega)]
    by_cases c4 : b < 128
    · rw [if_pos c4, if_neg c2, if_pos c4]
    · rw [if_neg c4, if_neg c4]
      rfl
end
section
variable (s : ByteArray) (a e : Int) (R : ByteArray) (h : Sim s a R) (h2 : s.size ≤ 4611686018427387904)
include h h2
theorem byte_both : Both s a e (fun v => strOfNums [v]) (fun v => 0 ≤ v ∧ v < 256) (pack_Reader_Byte.f s a e) (coppiceref02_Reader_Byte.f R e) := by
  have h0 := h.h0; have h1 := h.h1; have hz := h.size
  by_cases he : e = 0
  · subst he
    by_cases c : a < s.size
    · have hb := h.bt 0 (by omega)
      have hR : ¬ R.toList = ([] : List UInt8) := by
        intro e1
        have := congrArg List.length e1
        rw [ByteArray.toList_eq, Array.length_toList] at this
        have e2 : R.data.size = R.size := rfl
        simp only [List.length_nil] at this
        omega
      refine ⟨_, _, _, _, byte_ok s a h0 h1 h2 c, ?_, h.go 1 (by omega), bt_lt s a, fun _ => ⟨rfl, by omega, ?_⟩⟩
      · unfold coppiceref02_Reader_Byte.f
        rw [if_pos rfl, if_neg hR, if_pos (by omega), if_pos (by omega)]
        rw [show bt R 0 = bt s a by rw [show (0 : Int) = ((0 : Nat) : Int) from rfl, hb]; congr 1; omega]
      · have := extract_nums s a.toNat [bt s a] (by intro x hx; rw [List.mem_singleton] at hx; subst hx; exact bt_lt s a) (by simp only [List.length_singleton]; omega) (by
          intro j hj
          simp only [List.length_singleton] at hj
          have : j = 0 := by omega
          subst this
          simp only [List.getElem_cons_zero]
          congr 1; omega)
        refine Eq.trans ?_ this
        congr 1
        simp only [List.length_singleton]
        omega
    · have c' : a = s.size := by omega
      have hR : R.toList = ([] : List UInt8) := by
        rw [ByteArray.toList_eq]
        exact List.eq_nil_of_length_eq_zero (by rw [Array.length_toList]; show R.size = 0; omega)
      refine ⟨0, a, 20, R, byte_end s a h0 h1 h2 c', ?_, h, by omega, fun h => absurd h (by decide)⟩
      unfold coppiceref02_Reader_Byte.f
      rw [if_pos rfl, if_pos hR]
  · refine ⟨0, a, e, R, ?_, ?_, h, by omega, fun h => absurd h he⟩
    · unfold pack_Reader_Byte.f
      rw [take_err s a e 1 he, Option.bind_some]
      exact if_pos (by rw [ByteArray.toList_eq]; rfl)
    · unfold coppiceref02_Reader_Byte.f
      exact if_neg he
theorem fixed_both (k : Nat) (hk : 8 < k) : Both s a e (fun v => strOfNums (fixedNums v)) (fun v => 0 ≤ v ∧ v < 18446744073709551616) (pack_Reader_Fixed.f k s a e) (coppiceref02_Reader_Fixed.f k R e) := by
  have h0 := h.h0; have h1 := h.h1; have hz := h.size
  by_cases he : e = 0
  · subst he
    by_cases c : 8 ≤ (s.size : Int) - a
    · have hv : fixedVal R 0 = fixedVal s a := by
        have b0 := h.bt 0 (by omega); have b1 := h.bt 1 (by omega); have b2 := h.bt 2 (by omega); have b3 := h.bt 3 (by omega)
        have b4 := h.bt 4 (by omega); have b5 := h.bt 5 (by omega); have b6 := h.bt 6 (by omega); have b7 := h.bt 7 (by omega)
        unfold fixedVal
        rw [show (a + ((0 : Nat) : Int)) = a by omega] at b0
        rw [show (0 : Int) + 1 = ((1 : Nat) : Int) from rfl, show (0 : Int) + 2 = ((2 : Nat) : Int) from rfl, show (0 : Int) + 3 = ((3 : Nat) : Int) from rfl, show (0 : Int) + 4 = ((4 : Nat) : Int) from rfl, show (0 : Int) + 5 = ((5 : Nat) : Int) from rfl, show (0 : Int) + 6 = ((6 : Nat) : Int) from rfl, show (0 : Int) + 7 = ((7 : Nat) : Int) from rfl,
          show bt R 0 = bt s a from b0, b1, b2, b3, b4, b5, b6, b7]
        rfl
      have hr := fixedVal_range s a
      refine ⟨_, _, _, _, fixed_ok s a h0 h1 h2 k hk c, ?_, h.go 8 (by omega), hr, fun _ => ⟨rfl, by omega, ?_⟩⟩
      · rw [rfixed_ok R (by omega) k hk, hv]
      · have := extract_nums s a.toNat (fixedNums (fixedVal s a)) (fixedNums_range _ hr.1 hr.2) (by show a.toNat + 8 ≤ s.size; omega) (by
          intro j hj
          have hj8 : j < 8 := hj
          have en : fixedNums (fixedVal s a) = [bt s a, bt s (a + 1), bt s (a + 2), bt s (a + 3), bt s (a + 4), bt s (a + 5), bt s (a + 6), bt s (a + 7)] := by
            have r0 := bt_lt s a; have r1 := bt_lt s (a + 1); have r2 := bt_lt s (a + 2); have r3 := bt_lt s (a + 3)
            have r4 := bt_lt s (a + 4); have r5 := bt_lt s (a + 5); have r6 := bt_lt s (a + 6); have r7 := bt_lt s (a + 7)
            unfold fixedVal
            generalize bt s a = x0 at *
            generalize bt s (a + 1) = x1 at *
            generalize bt s (a + 2) = x2 at *
            generalize bt s (a + 3) = x3 at *
            generalize bt s (a + 4) = x4 at *
            generalize bt s (a + 5) = x5 at *
            generalize bt s (a + 6) = x6 at *
            generalize bt s (a + 7) = x7 at *
            simp only [fixedNums, val, List.length_cons, List.length_nil, List.cons.injEq, and_true]
            refine ⟨?_, ?_, ?_, ?_, ?_, ?_, ?_, ?_⟩ <;> omega
          simp only [en]
          have hc : j = 0 ∨ j = 1 ∨ j = 2 ∨ j = 3 ∨ j = 4 ∨ j = 5 ∨ j = 6 ∨ j = 7 := by omega
          have ea : ((a.toNat : Nat) : Int) = a := by omega
          rcases hc with rfl | rfl | rfl | rfl | rfl | rfl | rfl | rfl <;> simp only [List.getElem_cons_zero, List.getElem_cons_succ] <;> congr 1 <;> omega)
        refine Eq.trans ?_ this
        congr 1
        show (a + 8).toNat = a.toNat + 8
        omega
    · refine ⟨0, a, 20, R, fixed_short s a h0 h1 h2 k (by omega) (by omega), rfixed_short R (by omega) k, h, by omega, fun h => absurd h (by decide)⟩
  · refine ⟨0, a, e, R, ?_, ?_, h, by omega, fun h => absurd h he⟩
    · obtain ⟨k, rfl⟩ : ∃ q, k = q + 1 := ⟨k - 1, by omega⟩
      unfold pack_Reader_Fixed.f
      rw [take_err s a e 8 he, Option.bind_some, pack_Reader_Fixed.l0]
      exact if_neg (show ¬ ((0 : Int) < (PackP.E.size : Int)) by decide)
    · unfold coppiceref02_Reader_Fixed.f
      exact if_neg he
theorem scan_step : ∀ (q i : Nat) (n : Int) (k : Nat), q + i = 9 → 2 * q + 2 ≤ k → 0 ≤ n → n < 128 ^ i → i ≤ R.size →
    ∃ (n' at' e : Int), rsl s a (q + 1) (i : Int) n = some (n', s, at', e) ∧
      ((e = 0 ∧ coppiceref02_scan.l0 k R n (i : Int) = some (n', at' - a, 0) ∧ a + i < at' ∧ at' ≤ s.size) ∨ (e ≠ 0 ∧ n' = 0 ∧ at' = a ∧ coppiceref02_scan.l0 k R n (i : Int) = some (0, 0, e))) := by
  have h0 := h.h0; have h1 := h.h1; have hz := h.size
  intro q
  induction q with
  | zero =>
    intro i n k hi hk hn0 hn hl
    obtain ⟨k, rfl⟩ : ∃ m, k = m + 2 := ⟨k - 2, by omega⟩
    by_cases c1 : a + (i : Int) = (s.size : Int)
    · exact ⟨0, a, 20, by rw [rsl, if_pos c1], .inr ⟨by decide, rfl, rfl, scan_end (k + 1) R n i (by omega) (by omega)⟩⟩
    have hb := bt_lt s (a + (i : Int))
    have hj := scan_j k R n i (by omega) (bt s (a + (i : Int))) hb hn0 hn
    have hin := scan_in (k + 1) R n i (by omega) (by omega) (by omega)
    rw [h.bt i (by omega)] at hin
    rw [hin, hj]
    by_cases c2 : (i = 9 ∧ bt s (a + (i : Int)) > 1) ∨ (bt s (a + (i : Int)) = 0 ∧ 0 < i)
    · exact ⟨0, a, 21, by rw [rsl, if_neg c1, if_pos (show ((i : Int) = 9 ∧ 1 < bt s (a + (i : Int))) ∨ (bt s (a + (i : Int)) = 0 ∧ 0 < (i : Int)) by omega)], .inr ⟨by decide, rfl, rfl, if_pos c2⟩⟩
    refine ⟨acc7 n (bt s (a + (i : Int))) (i : Int), a + (i : Int) + 1, 0, by rw [rsl, if_neg c1, if_neg (show ¬ (((i : Int) = 9 ∧ 1 < bt s (a + (i : Int))) ∨ (bt s (a + (i : Int)) = 0 ∧ 0 < (i : Int))) by omega), if_pos (show bt s (a + (i : Int)) < 128 by omega)], .inl ⟨rfl, ?_, by omega, by omega⟩⟩
    rw [if_neg c2, if_pos (show bt s (a + (i : Int)) < 128 by omega), show a + (i : Int) + 1 - a = (i : Int) + 1 by omega]
  | succ q ih =>
    intro i n k hi hk hn0 hn hl
    obtain ⟨k, rfl⟩ : ∃ m, k = m + 2 := ⟨k - 2, by omega⟩
    by_cases c1 : a + (i : Int) = (s.size : Int)
    · exact ⟨0, a, 20, by rw [rsl, if_pos c1], .inr ⟨by decide, rfl, rfl, scan_end (k + 1) R n i (by omega) (by omega)⟩⟩
    have hb := bt_lt s (a + (i : Int))
    have hj := scan_j k R n i (by omega) (bt s (a + (i : Int))) hb hn0 hn
    have hin := scan_in (k + 1) R n i (by omega) (by omega) (by omega)
    rw [h.bt i (by omega)] at hin
    rw [hin, hj]
    by_cases c2 : (i = 9 ∧ bt s (a + (i : Int)) > 1) ∨ (bt s (a + (i : Int)) = 0 ∧ 0 < i)
    · exact ⟨0, a, 21, by rw [rsl, if_neg c1, if_pos (show ((i : Int) = 9 ∧ 1 < bt s (a + (i : Int))) ∨ (bt s (a + (i : Int)) = 0 ∧ 0 < (i : Int)) by omega)], .inr ⟨by decide, rfl, rfl, if_pos c2⟩⟩
    rw [if_neg c2]
    by_cases c4 : bt s (a + (i : Int)) < 128
    · refine ⟨acc7 n (bt s (a + (i : Int))) (i : Int), a + (i : Int) + 1, 0, by rw [rsl, if_neg c1, if_neg (show ¬ (((i : Int) = 9 ∧ 1 < bt s (a + (i : Int))) ∨ (bt s (a + (i : Int)) = 0 ∧ 0 < (i : Int))) by omega), if_pos c4], .inl ⟨rfl, ?_, by omega, by omega⟩⟩
      rw [if_pos c4, show a + (i : Int) + 1 - a = (i : Int) + 1 by omega]
    · rw [if_neg c4]
      have hlt := acc7_lt n (bt s (a + (i : Int))) (i : Int) (by omega) hn0 (by simpa using hn)
      have hcast : (i : Int) + 1 = ((i + 1 : Nat) : Int) := by omega
      rw [hcast, Int.toNat_natCast] at hlt
      obtain ⟨n', at', e, g1, g2⟩ := ih (i + 1) (acc7 n (bt s (a + (i : Int))) (i : Int)) k (by omega) (by omega) hlt.1 hlt.2 (by omega)
      refine ⟨n', at', e, by rw [rsl, if_neg c1, if_neg (show ¬ (((i : Int) = 9 ∧ 1 < bt s (a + (i : Int))) ∨ (bt s (a + (i : Int)) = 0 ∧ 0 < (i : Int))) by omega), if_neg c4, hcast, g1], ?_⟩
      rcases g2 with ⟨p1, p2, p3, p4⟩ | g2
      · exact .inl ⟨p1, p2, by omega, p4⟩
      · exact .inr g2
theorem scan_ok (k : Nat) (hk : 20 ≤ k) : ∃ (n' at' e : Int), rsl s a 10 0 0 = some (n', s, at', e) ∧
      ((e = 0 ∧ coppiceref02_scan.f k R = some (n', at' - a, 0) ∧ a < at' ∧ at' ≤ s.size) ∨ (e ≠ 0 ∧ n' = 0 ∧ at' = a ∧ coppiceref02_scan.f k R = some (0, 0, e))) := by
  obtain ⟨n', at', e, g1, g2⟩ := scan_step s a R h h2 9 0 0 k (by omega) (by omega) (by omega) (by decide) (by omega)
  refine ⟨n', at', e, g1, ?_⟩
  rcases g2 with ⟨p1, p2, p3, p4⟩ | g2
  · exact .inl ⟨p1, p2, by omega, p4⟩
  · exact .inr g2
theorem short_both (k : Nat) (hk : 20 ≤ k) : Both s a e (fun v => strOfNums (shortNums 9 v)) (fun v => 0 ≤ v ∧ v < 18446744073709551616) (pack_Reader_Short.f s a e) (coppiceref02_Reader_Short.f k R e) := by
  have h0 := h.h0; have h1 := h.h1; have hz := h.size
  by_cases he : e = 0
  · subst he
    obtain ⟨n', at', e', hr, g⟩ := scan_ok s a R h h2 k hk
    have hp : pack_Reader_Short.f s a 0 = some (n', s, at', e') := by rw [short_ok s a h0 h1 h2, hr]
    rcases g with ⟨rfl, g, g1, g2⟩ | ⟨g0, rfl, rfl, g⟩
    · obtain ⟨r1, r2, r3, r4, r5⟩ := rsl_read s a h0 h1 n' at' hr
      refine ⟨n', at', 0, R.extract (at' - a).toNat R.size, hp, ?_, ?_, ⟨r1, r2⟩, fun _ => ⟨rfl, by omega, r5⟩⟩
      · unfold coppiceref02_Reader_Short.f
        rw [if_pos rfl, g, Option.bind_some, if_pos (show 0 ≤ at' - a by omega), if_pos (show at' - a ≤ (R.size : Int) by omega)]
      · have := h.go (at' - a).toNat (by omega)
        rwa [show a + (((at' - a).toNat : Nat) : Int) = at' by omega] at this
    · refine ⟨0, at', e', R, hp, ?_, h, by omega, fun h => absurd h g0⟩
      unfold coppiceref02_Reader_Short.f
      rw [if_pos rfl, g, Option.bind_some, if_pos (show (0 : Int) ≤ 0 by decide), if_pos (show (0 : Int) ≤ (R.size : Int) by omega)]
      rw [show ((0 : Int).toNat) = 0 from rfl, ByteArray.extract_zero_size]
  · refine ⟨0, a, e, R, ?_, ?_, h, by omega, fun h => absurd h he⟩
    · unfold pack_Reader_Short.f; exact if_neg he
    · unfold coppiceref02_Reader_Short.f; exact if_neg he
theorem rtext_err (k : Nat) (x5 x6 e1 : Int) (he : e1 ≠ 0) : coppiceref02_Reader_Text.j1 (k + 2) x5 x6 e1 R 0 = some (⟨#[]⟩, R, e1) := by
  rw [coppiceref02_Reader_Text.j1, if_neg he, coppiceref02_Reader_Text.j2, if_neg (by decide), if_neg he]
theorem text_both (k : Nat) (hk : 20 ≤ k) (most : Int) (hm : -9223372036854775808 ≤ most ∧ most ≤ 9223372036854775807) :
    Both s a e (fun T => strOfNums (shortNums 9 T.size) ++ T) (fun T => (T.size : Int) ≤ most ∨ T.size = 0) (pack_Reader_Text.f k s a e most) (coppiceref02_Reader_Text.f k R e most) := by
  have h0 := h.h0; have h1 := h.h1; have hz := h.size
  have E0 : PackP.E.size = 0 := rfl
  by_cases he : e = 0
  · subst he
    obtain ⟨n', at', e', hr, g⟩ := scan_ok s a R h h2 k hk
    rcases g with ⟨rfl, g, g1, g2⟩ | ⟨g0, rfl, rfl, g⟩
    · obtain ⟨r1, r2, r3, r4, r5⟩ := rsl_read s a h0 h1 n' at' hr
      obtain ⟨k, rfl⟩ : ∃ q, k = q + 3 := ⟨k - 3, by omega⟩
      have hf : coppiceref02_Reader_Text.f (k + 3) R 0 most = coppiceref02_Reader_Text.j0 (k + 3) n' (at' - a) 0 (decide (most < 0 ∨ n' > most)) R 0 := by
        unfold coppiceref02_Reader_Text.f
        rw [if_pos rfl, g, Option.bind_some, if_pos rfl]
        by_cases c : most < 0
        · rw [if_pos c, decide_eq_true (by omega)]
        · rw [if_neg c, u64 most (by omega) (by omega), show decide (most < 0 ∨ n' > most) = decide (n' > most) from decide_eq_decide.2 (by omega)]
      by_cases c1 : most < 0 ∨ n' > most
      · refine ⟨PackP.E, a, 22, R, text_long s a h0 h1 h2 (k + 3) (by omega) most n' at' hm hr c1, ?_, h, .inr rfl, fun h => absurd h (by decide)⟩
        rw [hf, decide_eq_true c1, coppiceref02_Reader_Text.j0, if_pos rfl]
        exact rtext_err s a R h h2 k _ _ 22 (by decide)
      have hU : IntKind.u64.wrap (wrap64 ((R.size : Int) - (at' - a))) = (s.size : Int) - at' := by
        rw [w64 _ (by omega) (by omega), u64 _ (by omega) (by omega)]; omega
      by_cases c2 : n' > s.size - at'
      · refine ⟨PackP.E, a, 20, R, text_short s a h0 h1 h2 (k + 3) (by omega) most n' at' hm hr (by omega) c2, ?_, h, .inr rfl, fun h => absurd h (by decide)⟩
        rw [hf, decide_eq_false c1, coppiceref02_Reader_Text.j0, if_neg (by decide), coppiceref02_Reader_Text.j1, if_pos rfl, hU, decide_eq_true c2, coppiceref02_Reader_Text.j2, if_pos rfl]
        rfl
      have hx : (s.extract at'.toNat (at' + n').toNat).size = n'.toNat := by rw [ByteArray.size_extract]; omega
      refine ⟨s.extract at'.toNat (at' + n').toNat, at' + n', 0, R.extract (at' - a + n').toNat R.size, text_ok s a h0 h1 h2 (k + 3) (by omega) most n' at' hm hr (by omega) (by omega), ?_, ?_, .inl (by rw [hx]; omega), fun _ => ⟨rfl, by omega, ?_⟩⟩
      · rw [hf, decide_eq_false c1, coppiceref02_Reader_Text.j0, if_neg (by decide), coppiceref02_Reader_Text.j1, if_pos rfl, hU, decide_eq_false c2, coppiceref02_Reader_Text.j2, if_neg (by decide), if_pos rfl,
          w64 n' (by omega) (by omega), w64 (at' - a + n') (by omega) (by omega), if_pos (show 0 ≤ at' - a by omega), if_pos (show at' - a ≤ at' - a + n' by omega), if_pos (show at' - a + n' ≤ (R.size : Int) by omega), if_pos (show 0 ≤ at' - a + n' by omega)]
        congr 2
        have z1 : (R.extract (at' - a).toNat (at' - a + n').toNat).size = n'.toNat := by rw [ByteArray.size_extract]; omega
        apply ba_ext _ _ (by omega)
        intro i hi
        rw [bt_extract R _ _ i hi, bt_extract s _ _ i (by omega), h.bt _ (by omega)]
        congr 1
        omega
      · have := h.go (at' - a + n').toNat (by omega)
        rwa [show a + (((at' - a + n').toNat : Nat) : Int) = at' + n' by omega] at this
      · show s.extract a.toNat (at' + n').toNat = strOfNums (shortNums 9 ((s.extract at'.toNat (at' + n').toNat).size : Int)) ++ s.extract at'.toNat (at' + n').toNat
        rw [hx, show ((n'.toNat : Nat) : Int) = n' by omega, ← r5]
        have z0 : (s.extract a.toNat (at' + n').toNat).size = (at' + n').toNat - a.toNat := by rw [ByteArray.size_extract]; omega
        have z1 : (s.extract a.toNat at'.toNat).size = at'.toNat - a.toNat := by rw [ByteArray.size_extract]; omega
        apply ba_ext _ _ (by rw [ByteArray.size_append, z0, z1, hx]; omega)
        intro i hi
        rw [bt_extract s _ _ i hi]
        rcases Nat.lt_or_ge i (at'.toNat - a.toNat) with hl | hl
        · rw [bt_append_left _ _ i (by omega), bt_extract s _ _ i (by omega)]
        · obtain ⟨j, rfl⟩ : ∃ j, i = (at'.toNat - a.toNat) + j := ⟨i - (at'.toNat - a.toNat), by omega⟩
          have := bt_append_right (s.extract a.toNat at'.toNat) (s.extract at'.toNat (at' + n').toNat) j (by omega)
          rw [z1] at this
          rw [this, bt_extract s _ _ j (by omega)]
          congr 1
          omega
    · refine ⟨PackP.E, at', e', R, text_err s at' h0 h1 h2 k most 0 at' e' hr g0, ?_, h, .inr rfl, fun h => absurd h g0⟩
      obtain ⟨k, rfl⟩ : ∃ q, k = q + 3 := ⟨k - 3, by omega⟩
      unfold coppiceref02_Reader_Text.f
      rw [if_pos rfl, g, Option.bind_some, if_neg g0, coppiceref02_Reader_Text.j0, if_neg (by decide)]
      exact rtext_err s at' R h h2 k _ _ e' g0
  · refine ⟨PackP.E, a, e, R, ?_, ?_, h, .inr rfl, fun h => absurd h he⟩
    · unfold pack_Reader_Text.f pack_Reader_fails.f
      rw [Option.bind_some, if_pos (bne_iff_ne.mpr he)]
      rfl
    · unfold coppiceref02_Reader_Text.f
      exact if_neg he
theorem end_both : ∃ v, pack_Reader_End.f s a e = some (v, s, a, e) ∧ coppiceref02_Reader_End.f R e = some (v, R, e) ∧ (v = 0 ↔ e = 0 ∧ a = s.size) := by
  have h0 := h.h0; have h1 := h.h1; have hz := h.size
  unfold pack_Reader_End.f coppiceref02_Reader_End.f
  by_cases he : e = 0
  · subst he
    by_cases c : a < s.size
    · have hR : ¬ R.toList = ([] : List UInt8) := by
        intro e1
        have := congrArg List.length e1
        rw [ByteArray.toList_eq, Array.length_toList] at this
        have e2 : R.data.size = R.size := rfl
        simp only [List.length_nil] at this
        omega
      exact ⟨22, by rw [if_pos ⟨rfl, c⟩], by rw [if_pos rfl, if_neg hR], by omega⟩
    · have hR : R.toList = ([] : List UInt8) := by
        rw [ByteArray.toList_eq]
        exact List.eq_nil_of_length_eq_zero (by rw [Array.length_toList]; show R.size = 0; omega)
      exact ⟨0, by rw [if_neg (fun q => c q.2)], by rw [if_pos rfl, if_pos hR], by omega⟩
  · exact ⟨e, by rw [if_neg (fun q => he q.1)], by rw [if_neg he], by omega⟩
end
end Go.Proofs.YtofdpgcnconibaaGreatDoor.SimP
