import Derived.Test.YtofdpgcnconibaaGreatDoorPAx13
import Derived.Test.YtofdpgcnconibaaGreatDoorPAx14
import Derived.Test.YtofdpgcnconibaaGreatDoorPAx15
import Derived.Test.YtofdpgcnconibaaGreatDoorPackAt
/-! Of a beginning of a number's or a text's bytes nothing is read. -/
namespace Go.Proofs.YtofdpgcnconibaaGreatDoor.CutP
open Go.RowKit Go.Proofs.YtofdpgcnconibaaGreatDoor.PA Go.Proofs.YtofdpgcnconibaaGreatDoorW.PrintWords Go.Proofs.YtofdpgcnconibaaGreatDoorW.PrintLast Go.Proofs.YtofdpgcnconibaaGreatDoorW.PrintMore
open Go.Proofs.YtofdpgcnconibaaGreatDoor.Plain Go.Proofs.YtofdpgcnconibaaGreatDoor.PackP
/-- A short number whose last bytes are wanting isn't read. -/
theorem rsl_cut (s : ByteArray) : ∀ (k i : Nat) (n m : Int), k + i = 9 → (0 < i → 0 < m) → i ≤ s.size → s.size < i + (shortNums k m).length →
    (∀ (j : Nat) (hj : j < (shortNums k m).length), i + j < s.size → bt s ((i : Int) + (j : Int)) = (shortNums k m)[j]) →
    rsl s 0 (k + 1) (i : Int) n = some (0, s, 0, 20) := by
  intro k
  induction k with
  | zero =>
    intro i n m hki hmp hle hsz h
    have e : (shortNums 0 m).length = 1 := rfl
    rw [rsl, if_pos (by omega)]
  | succ k ih =>
    intro i n m hki hmp hle hsz h
    by_cases c1 : i = s.size
    · rw [rsl, if_pos (by omega)]
    by_cases c : 127 < m
    · have e : shortNums (k + 1) m = (m % 128 + 128) :: shortNums k (m / 128) := by rw [shortNums, if_pos c]
      have hb := h 0 (by simp [e]) (by omega)
      simp only [e, List.getElem_cons_zero, List.length_cons] at hb hsz
      have hb' : bt s (0 + (i : Int)) = m % 128 + 128 := by rw [← hb]; congr 1; omega
      have hcast : (i : Int) + 1 = ((i + 1 : Nat) : Int) := by omega
      rw [rsl, if_neg (by omega), hb', if_neg (by omega), if_neg (by omega), hcast]
      refine ih (i + 1) _ (m / 128) (by omega) (by omega) (by omega) (by omega) ?_
      intro j hj hij
      have := h (j + 1) (by rw [e]; simpa using hj) (by omega)
      simp only [e, List.getElem_cons_succ] at this
      rw [← this]
      congr 1
      omega
    · have e : (shortNums (k + 1) m).length = 1 := by rw [shortNums, if_neg c]; rfl
      omega
theorem cut_size (x : ByteArray) (c : Nat) (h : c < x.size) : (x.extract 0 c).size = c := by rw [ByteArray.size_extract]; omega
theorem cut_bt (x : ByteArray) (c : Nat) (h : c < x.size) (j : Nat) (hj : j < c) : bt (x.extract 0 c) (j : Int) = bt x (j : Int) := by
  rw [bt_extract x 0 c j (by rw [cut_size x c h]; exact hj)]
  congr 1
  omega
/-- Of a beginning of a short number's bytes (whatever stands behind them) nothing is read. -/
theorem short_cut (n : Int) (h0 : 0 ≤ n) (h1 : n < 18446744073709551616) (w : ByteArray) (c : Nat) (hc : c < (shortNums 9 n).length) : rsl ((strOfNums (shortNums 9 n) ++ w).extract 0 c) 0 10 0 0 = some (0, (strOfNums (shortNums 9 n) ++ w).extract 0 c, 0, 20) := by
  have hz : (strOfNums (shortNums 9 n) ++ w).size = (shortNums 9 n).length + w.size := by rw [ByteArray.size_append, strOfNums_size]
  have hs := cut_size (strOfNums (shortNums 9 n) ++ w) c (by omega)
  refine rsl_cut _ 9 0 0 n (by omega) (by omega) (by omega) (by omega) ?_
  intro j hj hij
  have e : ((0 : Nat) : Int) + (j : Int) = (j : Int) := by omega
  rw [e, cut_bt _ c (by omega) j (by omega), bt_append_left _ _ j (by rw [strOfNums_size]; exact hj), bt_strOfNums _ (shortNums_range 9 n h0 (by omega)) j hj]
theorem tmod_nat (c : Int) (h : 0 ≤ c) (z : Nat) (hz : 0 < z) : ∃ m : Nat, Int.tmod c (z : Int) = (m : Int) ∧ m < z := by
  obtain ⟨c, rfl⟩ := Int.eq_ofNat_of_zero_le h
  refine ⟨c % z, ?_, Nat.mod_lt _ hz⟩
  rw [Int.tmod_eq_emod_of_nonneg h]
  rfl
theorem text_cut (x : ByteArray) (hx : x.size ≤ 1000000000) (m : Nat) (hm : m < (strOfNums (shortNums 9 x.size) ++ x).size) (k : Nat) (hk : 0 < k) :
    ∃ e, (e = 20 ∨ e = 22) ∧ pack_Reader_Text.f k ((strOfNums (shortNums 9 x.size) ++ x).extract 0 m) 0 0 (m : Int) = some (PackP.E, (strOfNums (shortNums 9 x.size) ++ x).extract 0 m, 0, e) := by
  have zT : (strOfNums (shortNums 9 x.size) ++ x).size = (shortNums 9 x.size).length + x.size := by rw [ByteArray.size_append, strOfNums_size]
  have lT := shortNums_len 9 x.size
  have z3 := cut_size _ m hm
  by_cases cm : m < (shortNums 9 x.size).length
  · have q3 := short_cut x.size (by omega) (by omega) x m cm
    exact ⟨20, .inl rfl, text_err _ 0 (by omega) (by omega) (by omega) k m 0 0 20 q3 (by decide)⟩
  · have q3 : rsl ((strOfNums (shortNums 9 x.size) ++ x).extract 0 m) 0 10 0 0 = some ((x.size : Int), (strOfNums (shortNums 9 x.size) ++ x).extract 0 m, 0 + ((shortNums 9 x.size).length : Int), 0) := by
      refine rsl_write _ 0 x.size (by omega) (by omega) (by omega) ?_
      intro j hj
      rw [show (0 : Int) + (j : Int) = (j : Int) by omega, cut_bt _ m hm j (by omega), bt_append_left _ _ j (by rw [strOfNums_size]; exact hj), bt_strOfNums _ (shortNums_range 9 x.size (by omega) (by omega)) j hj]
    by_cases cl : (x.size : Int) > m
    · exact ⟨22, .inr rfl, text_long _ 0 (by omega) (by omega) (by omega) k hk m x.size _ ⟨by omega, by omega⟩ q3 (.inr cl)⟩
    · exact ⟨20, .inl rfl, text_short _ 0 (by omega) (by omega) (by omega) k hk m x.size _ ⟨by omega, by omega⟩ q3 ⟨by omega, by omega⟩ (by omega)⟩
end Go.Proofs.YtofdpgcnconibaaGreatDoor.CutP
