import Derived.Test.YtdkbikaheagbfaaPAx17
import Derived.Test.YtdkbikaheagbfaaPAx18
import Derived.Test.YtdkbikaheagbfaaPAx19
import Derived.Test.YtdkbikaheagbfaaPAx20
import Derived.Test.YtdkbikaheagbfaaBytes
/-! What pack's reader answers, in plain words, of a reader that stands in its text. -/
namespace Go.Proofs.Ytdkbikaheagbfaa.PackP
open Go.RowKit Go.Proofs.Ytdkbikaheagbfaa.PA Go.Proofs.YtdkbikaheagbfaaW.PrintWords Go.Proofs.YtdkbikaheagbfaaW.PrintLast Go.Proofs.YtdkbikaheagbfaaW.PrintMore
open Go.Proofs.Ytdkbikaheagbfaa.Plain

def E : ByteArray := ⟨#[]⟩
theorem w64 (x : Int) (h0 : -9223372036854775808 ≤ x) (h1 : x ≤ 9223372036854775807) : wrap64 x = x := by unfold wrap64; omega
theorem u64 (x : Int) (h0 : 0 ≤ x) (h1 : x ≤ 9223372036854775807) : IntKind.u64.wrap x = x := by rw [wrap_u64]; omega
section
variable (s : ByteArray) (a : Int) (h0 : 0 ≤ a) (h1 : a ≤ s.size) (h2 : s.size ≤ 4611686018427387904)
include h0 h1 h2
theorem take_ok (n : Int) (hn0 : 0 ≤ n) (hn : n ≤ s.size - a) : pack_Reader_take.f s a 0 n = some (s.extract a.toNat (a + n).toNat, s, a + n, 0) := by
  unfold pack_Reader_take.f pack_Reader_fails.f
  simp only [Option.bind_some]
  rw [if_neg (by decide)]
  rw [w64 ((s.size : Int) - a) (by omega) (by omega), w64 (a + n) (by omega) (by omega), w64 (a + n - n) (by omega) (by omega)]
  rw [if_neg (by omega), if_pos (by omega), if_pos (by omega), if_pos (by omega)]
  congr 3
  omega
theorem take_short (n : Int) (hn : n > s.size - a) : pack_Reader_take.f s a 0 n = some (E, s, a, 20) := by
  unfold pack_Reader_take.f pack_Reader_fails.f
  simp only [Option.bind_some]
  rw [if_neg (by decide), w64 ((s.size : Int) - a) (by omega) (by omega), if_pos (by omega)]
  rfl
theorem short_ok : pack_Reader_Short.f s a 0 = rsl s a 10 0 0 := by
  unfold pack_Reader_Short.f
  rw [if_pos rfl, if_pos ⟨h0, h1, by omega⟩]
theorem byte_ok (h : a < s.size) : pack_Reader_Byte.f s a 0 = some (bt s a, s, a + 1, 0) := by
  unfold pack_Reader_Byte.f
  rw [take_ok s a h0 h1 h2 1 (by omega) (by omega)]
  simp only [Option.bind_some]
  have hz : (s.extract a.toNat (a + 1).toNat).size = 1 := by rw [ByteArray.size_extract]; omega
  rw [if_neg (by
    intro e
    have : (s.extract a.toNat (a + 1).toNat).toList.length = 1 := by rw [ByteArray.toList_eq]; exact hz
    rw [e] at this
    simp at this), if_pos (by omega)]
  have := bt_extract s a.toNat (a + 1).toNat 0 (by omega)
  have e2 : ((a.toNat + 0 : Nat) : Int) = a := by omega
  rw [e2] at this
  rw [show (0 : Int) = ((0 : Nat) : Int) from rfl, this]
theorem byte_end (h : a = s.size) : pack_Reader_Byte.f s a 0 = some (0, s, a, 20) := by
  unfold pack_Reader_Byte.f
  rw [take_short s a h0 h1 h2 1 (by omega)]
  simp only [Option.bind_some]
  rw [if_pos (by rw [ByteArray.toList_eq]; rfl)]
end
section
variable (s : ByteArray) (a : Int) (h0 : 0 ≤ a) (h1 : a ≤ s.size) (h2 : s.size ≤ 4611686018427387904) (k : Nat)
include h0 h1 h2
theorem text_err (most n' at' e : Int) (hr : rsl s a 10 0 0 = some (n', s, at', e)) (he : e ≠ 0) : pack_Reader_Text.f k s a 0 most = some (E, s, a, e) := by
  unfold pack_Reader_Text.f pack_Reader_fails.f
  simp only [Option.bind_some]
  rw [if_neg (by decide), short_ok s a h0 h1 h2, hr]
  simp only [Option.bind_some]
  rw [if_neg he]
  rfl
theorem text_long (hk : 0 < k) (most n' at' : Int) (hm : -9223372036854775808 ≤ most ∧ most ≤ 9223372036854775807) (hr : rsl s a 10 0 0 = some (n', s, at', 0)) (hl : most < 0 ∨ n' > most) : pack_Reader_Text.f k s a 0 most = some (E, s, a, 22) := by
  unfold pack_Reader_Text.f pack_Reader_fails.f
  simp only [Option.bind_some]
  rw [if_neg (by decide), short_ok s a h0 h1 h2, hr]
  simp only [Option.bind_some]
  rw [if_pos trivial]
  obtain ⟨k, rfl⟩ : ∃ m, k = m + 1 := ⟨k - 1, by omega⟩
  by_cases c : most < 0
  · rw [if_pos c, pack_Reader_Text.j0, if_pos rfl]; rfl
  · rw [if_neg c, pack_Reader_Text.j0, u64 most (by omega) (by omega), if_pos (decide_eq_true (by omega))]; rfl
theorem text_short (hk : 0 < k) (most n' at' : Int) (hm : -9223372036854775808 ≤ most ∧ most ≤ 9223372036854775807) (hr : rsl s a 10 0 0 = some (n', s, at', 0)) (hl : 0 ≤ most ∧ n' ≤ most) (hs : n' > s.size - at') : pack_Reader_Text.f k s a 0 most = some (E, s, a, 20) := by
  obtain ⟨hn0, hn1, hat, hle, _⟩ := rsl_read s a h0 h1 n' at' hr
  unfold pack_Reader_Text.f pack_Reader_fails.f
  simp only [Option.bind_some]
  rw [if_neg (by decide), short_ok s a h0 h1 h2, hr]
  simp only [Option.bind_some]
  rw [if_pos trivial]
  obtain ⟨k, rfl⟩ : ∃ m, k = m + 1 := ⟨k - 1, by omega⟩
  rw [if_neg (by omega), pack_Reader_Text.j0, u64 most (by omega) (by omega), if_neg (by simp; omega), w64 _ (by omega) (by omega), u64 _ (by omega) (by omega), if_pos (by omega)]
  rfl
theorem text_ok (hk : 0 < k) (most n' at' : Int) (hm : -9223372036854775808 ≤ most ∧ most ≤ 9223372036854775807) (hr : rsl s a 10 0 0 = some (n', s, at', 0)) (hl : 0 ≤ most ∧ n' ≤ most) (hs : n' ≤ s.size - at') : pack_Reader_Text.f k s a 0 most = some (s.extract at'.toNat (at' + n').toNat, s, at' + n', 0) := by
  obtain ⟨hn0, hn1, hat, hle, _⟩ := rsl_read s a h0 h1 n' at' hr
  unfold pack_Reader_Text.f pack_Reader_fails.f
  simp only [Option.bind_some]
  rw [if_neg (by decide), short_ok s a h0 h1 h2, hr]
  simp only [Option.bind_some]
  rw [if_pos trivial]
  obtain ⟨k, rfl⟩ : ∃ m, k = m + 1 := ⟨k - 1, by omega⟩
  rw [if_neg (by omega), pack_Reader_Text.j0, u64 most (by omega) (by omega), if_neg (by simp; omega), w64 ((s.size : Int) - at') (by omega) (by omega), u64 _ (by omega) (by omega), if_neg (by omega), w64 n' (by omega) (by omega),
    take_ok s at' (by omega) hle h2 n' hn0 hs]
  rfl
end
end Go.Proofs.Ytdkbikaheagbfaa.PackP
