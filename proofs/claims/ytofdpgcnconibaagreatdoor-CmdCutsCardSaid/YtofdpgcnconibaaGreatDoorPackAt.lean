import Derived.Test.YtofdpgcnconibaaGreatDoorPAx13
import Derived.Test.YtofdpgcnconibaaGreatDoorPAx14
import Derived.Test.YtofdpgcnconibaaGreatDoorPAx9
import Derived.Test.YtofdpgcnconibaaGreatDoorPack
/-! A reader that stands ahead of a number's or a text's bytes reads them. -/
namespace Go.Proofs.YtofdpgcnconibaaGreatDoor.PackP
open Go.RowKit Go.Proofs.YtofdpgcnconibaaGreatDoor.PA Go.Proofs.YtofdpgcnconibaaGreatDoorW.PrintWords Go.Proofs.YtofdpgcnconibaaGreatDoorW.PrintLast Go.Proofs.YtofdpgcnconibaaGreatDoorW.PrintMore
open Go.Proofs.YtofdpgcnconibaaGreatDoor.Plain

/-- Of three parts the middle one's bytes stand behind the first one's. -/
theorem mid_bt (u v w : ByteArray) (i : Nat) (h : i < v.size) : bt (u ++ v ++ w) ((u.size : Int) + (i : Int)) = bt v (i : Int) := by
  have e : (u.size : Int) + (i : Int) = ((u.size + i : Nat) : Int) := by omega
  rw [e, bt_append_left (u ++ v) w (u.size + i) (by rw [ByteArray.size_append]; omega), bt_append_right u v i h]
theorem mid_size (u v w : ByteArray) : (u ++ v ++ w).size = u.size + v.size + w.size := by rw [ByteArray.size_append, ByteArray.size_append]
theorem mid_extract (u v w : ByteArray) (a b : Nat) (ha : a = u.size) (hb : b = u.size + v.size) : (u ++ v ++ w).extract a b = v := by
  subst ha hb
  have hz : ((u ++ v ++ w).extract u.size (u.size + v.size)).size = v.size := by rw [ByteArray.size_extract, mid_size]; omega
  apply ba_ext _ _ hz
  intro i hi
  rw [bt_extract _ _ _ i hi, ← mid_bt u v w i (by omega)]
  congr 1
theorem mid_nums (u w : ByteArray) (l : List Int) (hl : ∀ x ∈ l, 0 ≤ x ∧ x < 256) (j : Nat) (hj : j < l.length) : bt (u ++ strOfNums l ++ w) ((u.size : Int) + (j : Int)) = l[j] := by
  rw [mid_bt u _ w j (by rw [strOfNums_size]; exact hj), bt_strOfNums l hl j hj]
section
variable (u w : ByteArray) (n : Int) (h0 : 0 ≤ n) (h1 : n < 18446744073709551616)
include h0 h1
theorem at_fixedVal : fixedVal (u ++ strOfNums (fixedNums n) ++ w) (u.size : Int) = n := by
  have r := fixedNums_range n h0 h1
  have g : ∀ (j : Nat) (hj : j < (fixedNums n).length), bt (u ++ strOfNums (fixedNums n) ++ w) ((u.size : Int) + (j : Int)) = (fixedNums n)[j] := mid_nums u w _ r
  have hL : (fixedNums n).length = 8 := rfl
  have g0 := g 0 (by omega)
  rw [show ((u.size : Int) + ((0 : Nat) : Int)) = (u.size : Int) by omega] at g0
  have g1 := g 1 (by omega); have g2 := g 2 (by omega); have g3 := g 3 (by omega); have g4 := g 4 (by omega)
  have g5 := g 5 (by omega); have g6 := g 6 (by omega); have g7 := g 7 (by omega)
  unfold fixedVal
  rw [g0]
  rw [show (u.size : Int) + 1 = (u.size : Int) + ((1 : Nat) : Int) from rfl, g1]
  rw [show (u.size : Int) + 2 = (u.size : Int) + ((2 : Nat) : Int) from rfl, g2]
  rw [show (u.size : Int) + 3 = (u.size : Int) + ((3 : Nat) : Int) from rfl, g3]
  rw [show (u.size : Int) + 4 = (u.size : Int) + ((4 : Nat) : Int) from rfl, g4]
  rw [show (u.size : Int) + 5 = (u.size : Int) + ((5 : Nat) : Int) from rfl, g5]
  rw [show (u.size : Int) + 6 = (u.size : Int) + ((6 : Nat) : Int) from rfl, g6]
  rw [show (u.size : Int) + 7 = (u.size : Int) + ((7 : Nat) : Int) from rfl, g7]
  exact val_fixed n
theorem at_fixed (k : Nat) (hk : 8 < k) (s : ByteArray) (a : Int) (hs : s = u ++ strOfNums (fixedNums n) ++ w) (ha : a = (u.size : Int)) (h2 : s.size ≤ 4611686018427387904) :
    pack_Reader_Fixed.f k s a 0 = some (n, s, a + 8, 0) := by
  have hz : s.size = u.size + 8 + w.size := by rw [hs, mid_size, strOfNums_size]; rfl
  rw [fixed_ok s a (by omega) (by omega) h2 k hk (by omega)]
  have := at_fixedVal u w n h0 h1
  rw [← hs, ← ha] at this
  rw [this]
theorem at_rsl (s : ByteArray) (a : Int) (hs : s = u ++ strOfNums (shortNums 9 n) ++ w) (ha : a = (u.size : Int)) :
    rsl s a 10 0 0 = some (n, s, a + (shortNums 9 n).length, 0) := by
  have hz : s.size = u.size + (shortNums 9 n).length + w.size := by rw [hs, mid_size, strOfNums_size]
  refine rsl_write s a n h0 h1 (by omega) ?_
  intro j hj
  rw [hs, ha]
  exact mid_nums u w _ (shortNums_range 9 n h0 (by omega)) j hj
theorem at_short (s : ByteArray) (a : Int) (hs : s = u ++ strOfNums (shortNums 9 n) ++ w) (ha : a = (u.size : Int)) (h2 : s.size ≤ 4611686018427387904) :
    pack_Reader_Short.f s a 0 = some (n, s, a + (shortNums 9 n).length, 0) := by
  have hz : s.size = u.size + (shortNums 9 n).length + w.size := by rw [hs, mid_size, strOfNums_size]
  rw [short_ok s a (by omega) (by omega) h2]
  exact at_rsl u w n h0 h1 s a hs ha
end
theorem at_text (u w t : ByteArray) (k : Nat) (hk : 0 < k) (s : ByteArray) (a : Int) (hs : s = u ++ (strOfNums (shortNums 9 t.size) ++ t) ++ w) (ha : a = (u.size : Int)) (h2 : s.size ≤ 4611686018427387904) (most : Int) (hm : (t.size : Int) ≤ most ∧ most ≤ 9223372036854775807) :
    pack_Reader_Text.f k s a 0 most = some (t, s, a + (shortNums 9 t.size).length + t.size, 0) := by
  have hz : s.size = u.size + ((shortNums 9 t.size).length + t.size) + w.size := by rw [hs, mid_size, ByteArray.size_append, strOfNums_size]
  have hr := at_rsl u (t ++ w) t.size (by omega) (by omega) s a (by rw [hs]; simp only [ByteArray.append_assoc]) ha
  rw [text_ok s a (by omega) (by omega) h2 k hk most t.size _ ⟨by omega, hm.2⟩ hr ⟨by omega, hm.1⟩ (by omega)]
  have := mid_extract (u ++ strOfNums (shortNums 9 t.size)) t w (a + (shortNums 9 t.size).length).toNat (a + (shortNums 9 t.size).length + t.size).toNat (by rw [ByteArray.size_append, strOfNums_size]; omega) (by rw [ByteArray.size_append, strOfNums_size]; omega)
  rw [show u ++ strOfNums (shortNums 9 t.size) ++ t ++ w = s by rw [hs]; simp only [ByteArray.append_assoc]] at this
  rw [this]
end Go.Proofs.YtofdpgcnconibaaGreatDoor.PackP
