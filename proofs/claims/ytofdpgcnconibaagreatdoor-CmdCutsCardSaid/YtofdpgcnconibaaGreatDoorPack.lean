import Derived.Test.YtofdpgcnconibaaGreatDoorPAx13
import Derived.Test.YtofdpgcnconibaaGreatDoorPAx14
import Derived.Test.YtofdpgcnconibaaGreatDoorPAx15
import Derived.Test.YtofdpgcnconibaaGreatDoorBytes
/-! What pack's reader answers, in plain words, of a reader that stands in its text. -/
namespace Go.Proofs.YtofdpgcnconibaaGreatDoor.PackP
open Go.RowKit Go.Proofs.YtofdpgcnconibaaGreatDoor.PA Go.Proofs.YtofdpgcnconibaaGreatDoorW.PrintWords Go.Proofs.YtofdpgcnconibaaGreatDoorW.PrintLast Go.Proofs.YtofdpgcnconibaaGreatDoorW.PrintMore
open Go.Proofs.YtofdpgcnconibaaGreatDoor.Plain

def E : ByteArray := ⟨#[]⟩
theorem w64 (x : Int) (h0 : -9223372036854775808 ≤ x) (h1 : x ≤ 9223372036854775807) : wrap64 x = x := by unfold wrap64; omega
theorem u64 (x : Int) (h0 : 0 ≤ x) (h1 : x ≤ 9223372036854775807) : IntKind.u64.wrap x = x := by rw [wrap_u64]; omega
section
variable (s : ByteArray) (a : Int) (h0 : 0 ≤ a) (h1 : a ≤ s.size) (h2 : s.size ≤ 4611686018427387904)
include h0 h1 h2
theorem take_ok (n : Int) (hn0 : 0 ≤ n) (hn : n ≤ s.size - a) : pack_Reader_take.f s a 0 n = some (s.extract a.toNat (a + n).toNat, s, a + n, 0) := by
  unfold pack_Reader_take.f pack_Reader_fails.f
  simp only [Option.bind_some]
  rw [if_neg (by decide)]
  rw [w64 ((s.size : Int) - a) (by omega) (by omega), w64 (a + n) (by omega) (by omega), w64 (a + n - n) (by omega) (by omega)]
  rw [if_neg (by omega), if_pos (by omega), if_pos (by omega), if_pos (by omega)]
  congr 3
  omega
theorem take_short (n : Int) (hn : n > s.size - a) : pack_Reader_take.f s a 0 n = some (E, s, a, 20) := by
  unfold pack_Reader_take.f pack_Reader_fails.f
  simp only [Option.bind_some]
  rw [if_neg (by decide), w64 ((s.size : Int) - a) (by omega) (by omega), if_pos (by omega)]
  rfl
theorem short_ok : pack_Reader_Short.f s a 0 = rsl s a 10 0 0 := by
  unfold pack_Reader_Short.f
  rw [if_pos rfl, if_pos ⟨h0, h1, by omega⟩]
theorem byte_ok (h : a < s.size) : pack_Reader_Byte.f s a 0 = some (bt s a, s, a + 1, 0) := by
  unfold pack_Reader_Byte.f
  rw [take_ok s a h0 h1 h2 1 (by omega) (by omega)]
  simp only [Option.bind_some]
  have hz : (s.extract a.toNat (a + 1).toNat).size = 1 := by rw [ByteArray.size_extract]; omega
  rw [if_neg (by
    intro e
    have : (s.extract a.toNat (a + 1).toNat).toList.length = 1 := by rw [ByteArray.toList_eq]; exact hz
    rw [e] at this
    simp at this), if_pos (by omega)]
  have := bt_extract s a.toNat (a + 1).toNat 0 (by omega)
  have e2 : ((a.toNat + 0 : Nat) : Int) = a := by omega
  rw [e2] at this
  rw [show (0 : Int) = ((0 : Nat) : Int) from rfl, this]
theorem byte_end (h : a = s.size) : pack_Reader_Byte.f s a 0 = some (0, s, a, 20) := by
  unfold pack_Reader_Byte.f
  rw [take_short s a h0 h1 h2 1 (by omega)]
  simp only [Option.bind_some]
  rw [if_pos (by rw [ByteArray.toList_eq]; rfl)]
end
theorem p256 (m : Nat) (h : m ≤ 7) : (256 : Int) ^ m ≤ 72057594037927936 := by
  have : m = 0 ∨ m = 1 ∨ m = 2 ∨ m = 3 ∨ m = 4 ∨ m = 5 ∨ m = 6 ∨ m = 7 := by omega
  rcases this with rfl | rfl | rfl | rfl | rfl | rfl | rfl | rfl <;> decide
theorem wstep (v b : Int) (hv0 : 0 ≤ v) (hv : v < 72057594037927936) (hb0 : 0 ≤ b) (hb : b < 256) : IntKind.u64.wrap (IntKind.u64.wrap (v * 256) + IntKind.u64.wrap b) = v * 256 + b := by
  rw [wrap_u64, wrap_u64, wrap_u64, Int.emod_eq_of_lt (a := v * 256) (by omega) (by omega), Int.emod_eq_of_lt (a := b) (by omega) (by omega), Int.emod_eq_of_lt (by omega) (by omega)]
theorem fixed_step (k : Nat) (n : Int) (t : ByteArray) (i : Int) (s : ByteArray) (a e : Int) (ht : t.size = 8) (h0 : 0 ≤ i) (h : i < 8) (hn0 : 0 ≤ n) (hn : n < 72057594037927936) :
    pack_Reader_Fixed.l0 (k + 1) n t 8 i s a e = pack_Reader_Fixed.l0 k (n * 256 + bt t i) t 8 (i + 1) s a e := by
  have hbt := bt_lt t i
  rw [pack_Reader_Fixed.l0, if_pos h, if_pos h0, if_pos (by omega), wstep n _ hn0 hn hbt.1 hbt.2, w64 (i + 1) (by omega) (by omega)]
theorem fixed_stop (k : Nat) (n : Int) (t : ByteArray) (s : ByteArray) (a e : Int) : pack_Reader_Fixed.l0 (k + 1) n t 8 8 s a e = some (n, s, a, e) := by
  rw [pack_Reader_Fixed.l0, if_neg (by decide)]
theorem fixed_loop (t s : ByteArray) (a e : Int) (ht : t.size = 8) (k : Nat) (hk : 8 < k) :
    pack_Reader_Fixed.l0 k 0 t 8 0 s a e = some (val [bt t 0, bt t 1, bt t 2, bt t 3, bt t 4, bt t 5, bt t 6, bt t 7], s, a, e) := by
  obtain ⟨k, rfl⟩ : ∃ m, k = m + 9 := ⟨k - 9, by omega⟩
  have b0 := bt_lt t 0; have b1 := bt_lt t 1; have b2 := bt_lt t 2; have b3 := bt_lt t 3
  have b4 := bt_lt t 4; have b5 := bt_lt t 5; have b6 := bt_lt t 6; have b7 := bt_lt t 7
  simp only [val, List.length_cons, List.length_nil]
  generalize hx0 : bt t 0 = x0 at *
  generalize hx1 : bt t 1 = x1 at *
  generalize hx2 : bt t 2 = x2 at *
  generalize hx3 : bt t 3 = x3 at *
  generalize hx4 : bt t 4 = x4 at *
  generalize hx5 : bt t 5 = x5 at *
  generalize hx6 : bt t 6 = x6 at *
  generalize hx7 : bt t 7 = x7 at *
  rw [fixed_step (k + 8) _ t 0 s a e ht (by omega) (by omega) (by omega) (by omega), hx0, show (0 : Int) + 1 = 1 from rfl]
  rw [fixed_step (k + 7) _ t 1 s a e ht (by omega) (by omega) (by omega) (by omega), hx1, show (1 : Int) + 1 = 2 from rfl]
  rw [fixed_step (k + 6) _ t 2 s a e ht (by omega) (by omega) (by omega) (by omega), hx2, show (2 : Int) + 1 = 3 from rfl]
  rw [fixed_step (k + 5) _ t 3 s a e ht (by omega) (by omega) (by omega) (by omega), hx3, show (3 : Int) + 1 = 4 from rfl]
  rw [fixed_step (k + 4) _ t 4 s a e ht (by omega) (by omega) (by omega) (by omega), hx4, show (4 : Int) + 1 = 5 from rfl]
  rw [fixed_step (k + 3) _ t 5 s a e ht (by omega) (by omega) (by omega) (by omega), hx5, show (5 : Int) + 1 = 6 from rfl]
  rw [fixed_step (k + 2) _ t 6 s a e ht (by omega) (by omega) (by omega) (by omega), hx6, show (6 : Int) + 1 = 7 from rfl]
  rw [fixed_step (k + 1) _ t 7 s a e ht (by omega) (by omega) (by omega) (by omega), hx7, show (7 : Int) + 1 = 8 from rfl, fixed_stop]
  congr 2
  omega
section
variable (s : ByteArray) (a : Int) (h0 : 0 ≤ a) (h1 : a ≤ s.size) (h2 : s.size ≤ 4611686018427387904) (k : Nat)
include h0 h1 h2
theorem fixed_ok (hk : 8 < k) (h : 8 ≤ s.size - a) : pack_Reader_Fixed.f k s a 0 = some (fixedVal s a, s, a + 8, 0) := by
  unfold pack_Reader_Fixed.f
  rw [take_ok s a h0 h1 h2 8 (by omega) (by omega)]
  simp only [Option.bind_some]
  have hz : (s.extract a.toNat (a + 8).toNat).size = 8 := by rw [ByteArray.size_extract]; omega
  have := fixed_loop (s.extract a.toNat (a + 8).toNat) s (a + 8) 0 hz k hk
  rw [hz]
  have hb : ∀ i : Nat, i < 8 → bt (s.extract a.toNat (a + 8).toNat) (i : Int) = bt s (a + i) := by
    intro i hi
    rw [bt_extract s a.toNat (a + 8).toNat i (by omega)]
    congr 1
    omega
  rw [show ((8 : Nat) : Int) = 8 from rfl, this]
  unfold fixedVal
  have e0 : bt (s.extract a.toNat (a + 8).toNat) 0 = bt s a := by have := hb 0 (by omega); simpa using this
  have e1 : bt (s.extract a.toNat (a + 8).toNat) 1 = bt s (a + 1) := hb 1 (by omega)
  have e2 : bt (s.extract a.toNat (a + 8).toNat) 2 = bt s (a + 2) := hb 2 (by omega)
  have e3 : bt (s.extract a.toNat (a + 8).toNat) 3 = bt s (a + 3) := hb 3 (by omega)
  have e4 : bt (s.extract a.toNat (a + 8).toNat) 4 = bt s (a + 4) := hb 4 (by omega)
  have e5 : bt (s.extract a.toNat (a + 8).toNat) 5 = bt s (a + 5) := hb 5 (by omega)
  have e6 : bt (s.extract a.toNat (a + 8).toNat) 6 = bt s (a + 6) := hb 6 (by omega)
  have e7 : bt (s.extract a.toNat (a + 8).toNat) 7 = bt s (a + 7) := hb 7 (by omega)
  rw [e0, e1, e2, e3, e4, e5, e6, e7]
theorem fixed_short (hk : 0 < k) (h : s.size - a < 8) : pack_Reader_Fixed.f k s a 0 = some (0, s, a, 20) := by
  unfold pack_Reader_Fixed.f
  rw [take_short s a h0 h1 h2 8 (by omega)]
  simp only [Option.bind_some]
  obtain ⟨k, rfl⟩ : ∃ m, k = m + 1 := ⟨k - 1, by omega⟩
  rw [pack_Reader_Fixed.l0, if_neg (by decide)]
theorem text_err (most n' at' e : Int) (hr : rsl s a 10 0 0 = some (n', s, at', e)) (he : e ≠ 0) : pack_Reader_Text.f k s a 0 most = some (E, s, a, e) := by
  unfold pack_Reader_Text.f pack_Reader_fails.f
  simp only [Option.bind_some]
  rw [if_neg (by decide), short_ok s a h0 h1 h2, hr]
  simp only [Option.bind_some]
  rw [if_neg he]
  rfl
theorem text_long (hk : 0 < k) (most n' at' : Int) (hm : -9223372036854775808 ≤ most ∧ most ≤ 9223372036854775807) (hr : rsl s a 10 0 0 = some (n', s, at', 0)) (hl : most < 0 ∨ n' > most) : pack_Reader_Text.f k s a 0 most = some (E, s, a, 22) := by
  unfold pack_Reader_Text.f pack_Reader_fails.f
  simp only [Option.bind_some]
  rw [if_neg (by decide), short_ok s a h0 h1 h2, hr]
  simp only [Option.bind_some]
  rw [if_pos trivial]
  obtain ⟨k, rfl⟩ : ∃ m, k = m + 1 := ⟨k - 1, by omega⟩
  by_cases c : most < 0
  · rw [if_pos c, pack_Reader_Text.j0, if_pos rfl]; rfl
  · rw [if_neg c, pack_Reader_Text.j0, u64 most (by omega) (by omega), if_pos (decide_eq_true (by omega))]; rfl
theorem text_short (hk : 0 < k) (most n' at' : Int) (hm : -9223372036854775808 ≤ most ∧ most ≤ 9223372036854775807) (hr : rsl s a 10 0 0 = some (n', s, at', 0)) (hl : 0 ≤ most ∧ n' ≤ most) (hs : n' > s.size - at') : pack_Reader_Text.f k s a 0 most = some (E, s, a, 20) := by
  obtain ⟨hn0, hn1, hat, hle, _⟩ := rsl_read s a h0 h1 n' at' hr
  unfold pack_Reader_Text.f pack_Reader_fails.f
  simp only [Option.bind_some]
  rw [if_neg (by decide), short_ok s a h0 h1 h2, hr]
  simp only [Option.bind_some]
  rw [if_pos trivial]
  obtain ⟨k, rfl⟩ : ∃ m, k = m + 1 := ⟨k - 1, by omega⟩
  rw [if_neg (by omega), pack_Reader_Text.j0, u64 most (by omega) (by omega), if_neg (by simp; omega), w64 _ (by omega) (by omega), u64 _ (by omega) (by omega), if_pos (by omega)]
  rfl
theorem text_ok (hk : 0 < k) (most n' at' : Int) (hm : -9223372036854775808 ≤ most ∧ most ≤ 9223372036854775807) (hr : rsl s a 10 0 0 = some (n', s, at', 0)) (hl : 0 ≤ most ∧ n' ≤ most) (hs : n' ≤ s.size - at') : pack_Reader_Text.f k s a 0 most = some (s.extract at'.toNat (at' + n').toNat, s, at' + n', 0) := by
  obtain ⟨hn0, hn1, hat, hle, _⟩ := rsl_read s a h0 h1 n' at' hr
  unfold pack_Reader_Text.f pack_Reader_fails.f
  simp only [Option.bind_some]
  rw [if_neg (by decide), short_ok s a h0 h1 h2, hr]
  simp only [Option.bind_some]
  rw [if_pos trivial]
  obtain ⟨k, rfl⟩ : ∃ m, k = m + 1 := ⟨k - 1, by omega⟩
  rw [if_neg (by omega), pack_Reader_Text.j0, u64 most (by omega) (by omega), if_neg (by simp; omega), w64 ((s.size : Int) - at') (by omega) (by omega), u64 _ (by omega) (by omega), if_neg (by omega), w64 n' (by omega) (by omega),
    take_ok s at' (by omega) hle h2 n' hn0 hs]
  rfl
end
end Go.Proofs.YtofdpgcnconibaaGreatDoor.PackP
