import Derived.Test.YtofdpgcnconibaaGreatDoorPAx15
import Derived.Test.YtofdpgcnconibaaGreatDoorPAx3
import Derived.Test.YtofdpgcnconibaaGreatDoorPAx4
import Derived.Test.YtofdpgcnconibaaGreatDoorDigits
/-! Orphans' names: the program's answer is the document's. -/
set_option linter.unusedVariables false
set_option linter.unusedSimpArgs false
namespace Go.Proofs.YtofdpgcnconibaaGreatDoor.PathP
open Go.RowKit Go.Proofs.YtofdpgcnconibaaGreatDoor.PA Go.Proofs.YtofdpgcnconibaaGreatDoorW.PrintWords Go.Proofs.YtofdpgcnconibaaGreatDoorW.PrintLast Go.Proofs.YtofdpgcnconibaaGreatDoorW.PrintMore
open Go.Proofs.YtofdpgcnconibaaGreatDoor.Plain
def refV : Option Nat → Int × Bool
  | some n => if 1 ≤ n ∧ n ≤ 1099511627776 then ((n : Int), true) else (0, false)
  | none => (0, false)
theorem orph_l0 (s : ByteArray) (hs : s.size ≤ 14) : ∀ (m k j x : Nat), s.size = j + 1 + m → m < k → x < 10 ^ j →
    coppiceref12_OrphanOf.l0 k s (x : Int) ((j + 1 : Nat) : Int) = some (refV (Lib.decFrom x (s.data.toList.drop (j + 1))))
  | 0, k, j, x, hz, hk, hx => by
    obtain ⟨k, rfl⟩ : ∃ q, k = q + 1 := ⟨k - 1, by omega⟩
    have hd : Lib.decFrom x (s.data.toList.drop (j + 1)) = some x := by
      rw [List.drop_of_length_le (by rw [lenL]; omega)]; rfl
    rw [hd]
    simp only [coppiceref12_OrphanOf.l0, refV]
    rw [if_neg (by omega)]
    by_cases h1 : (x : Int) < 1
    · rw [if_pos h1, if_neg (by omega)]
    · rw [if_neg h1]
      by_cases h2 : (x : Int) > 1099511627776
      · rw [if_pos h2, if_neg (by omega)]
      · rw [if_neg h2, if_pos (by omega)]
  | m + 1, k, j, x, hz, hk, hx => by
    obtain ⟨k, rfl⟩ : ∃ q, k = q + 1 := ⟨k - 1, by omega⟩
    have hi : j + 1 < s.size := by omega
    have hb := bt_nat s (j + 1) hi
    rw [dropL s (j + 1) hi]
    simp only [coppiceref12_OrphanOf.l0]
    rw [if_pos (by omega), if_pos (by omega), hb]
    generalize s[j + 1]'hi = c
    have hp : 10 ^ j ≤ 10 ^ 13 := Nat.pow_le_pow_right (by decide) (by omega)
    by_cases h1 : (c.toNat : Int) < 48
    · have hv : Lib.digitVal c = none := if_neg (fun h => absurd h.1 (by omega))
      rw [if_pos h1, Lib.decFrom, hv]; rfl
    · rw [if_neg h1]
      by_cases h2 : (c.toNat : Int) > 57
      · have hv : Lib.digitVal c = none := if_neg (fun h => absurd h.2 (by omega))
        rw [if_pos h2, Lib.decFrom, hv]; rfl
      · have hv : Lib.digitVal c = some (c.toNat - 48) := if_pos ⟨by omega, by omega⟩
        rw [if_neg h2, decFrom_cons _ _ _ _ hv]
        clear hv hb
        generalize c.toNat = u at *
        have hd : u - 48 < 10 := by omega
        have e0 : wrap64 (10 * (x : Int)) = ((10 * x : Nat) : Int) := by rw [wrap_in (by omega) (by omega)]; omega
        have e1 : wrap64 (((10 * x : Nat) : Int) + (((u : Int) - 48) % 256)) = ((x * 10 + (u - 48) : Nat) : Int) := by rw [wrap_in (by omega) (by omega)]; omega
        rw [e0, e1, wrapn (by omega)]
        clear e0 e1
        refine orph_l0 s hs m k (j + 1) (x * 10 + (u - 48)) (by omega) (by omega) ?_
        rw [Nat.pow_succ]
        omega
/-- What the document answers. -/
def refOrph (s : ByteArray) : Int × Bool := if 2 ≤ s.size ∧ s.size ≤ 14 ∧ s.data.toList.head? = some 0 ∧ s.data.toList.tail.head? ≠ some 48 then refV (Lib.decFrom 0 s.data.toList.tail) else (0, false)
theorem rorph_f (s : ByteArray) (hs : s.size ≤ 1000000) (k : Nat) (hk : s.size + 3 ≤ k) : coppiceref12_OrphanOf.f k s = some (refOrph s) := by
  obtain ⟨k, rfl⟩ : ∃ q, k = q + 1 := ⟨k - 1, by omega⟩
  have bad : coppiceref12_OrphanOf.j0 (k + 1) s true = some (0, false) := by
    simp only [coppiceref12_OrphanOf.j0]; first | done | rfl | rw [if_pos rfl] | rw [if_pos trivial]
  unfold coppiceref12_OrphanOf.f refOrph
  by_cases h0 : (s.size : Int) < 2
  · rw [if_pos h0, bad, if_neg (fun h => absurd h.1 (by omega))]
  · rw [if_neg h0]
    by_cases h1 : (s.size : Int) > 14
    · rw [if_pos h1, bad, if_neg (fun h => absurd h.2.1 (by omega))]
    · have hi0 : 0 < s.size := by omega
      have hi1 : 1 < s.size := by omega
      rw [if_neg h1, if_pos (by omega)]
      have hd : s.data.toList = s[0]'hi0 :: s[1]'hi1 :: s.data.toList.drop 2 := by
        have a := dropL s 0 hi0
        have b := dropL s 1 hi1
        rw [List.drop_zero] at a
        rw [← b]
        exact a
      have b0 : bt s 0 = 0 ↔ s[0]'hi0 = 0 := bt_eq s 0 hi0 0 (by decide)
      have b1 : bt s 1 = 48 ↔ s[1]'hi1 = 48 := bt_eq s 1 hi1 48 (by decide)
      have hh : s.data.toList.head? = some (s[0]'hi0) := by rw [hd]; rfl
      have ht : s.data.toList.tail.head? = some (s[1]'hi1) := by rw [hd]; rfl
      rw [hh, ht]
      by_cases c0 : s[0]'hi0 = 0
      · rw [if_pos (b0.2 c0), if_pos (by omega)]
        by_cases c1 : s[1]'hi1 = 48
        · have e : (bt s 1 == 48) = true := by rw [b1.2 c1]; rfl
          rw [e, bad, if_neg (fun h => h.2.2.2 (by rw [c1]))]
        · have e : (bt s 1 == 48) = false := by rw [beq_eq_false_iff_ne]; exact fun h => c1 (b1.1 h)
          rw [e, if_pos ⟨by omega, by omega, by rw [c0], fun h => c1 (Option.some.inj h)⟩]
          simp only [coppiceref12_OrphanOf.j0]
          have := orph_l0 s (by omega) (s.size - 1) k 0 0 (by omega) (by omega) (by decide)
          rw [if_neg (by decide)]
          have hdr : s.data.toList.drop (0 + 1) = s.data.toList.tail := by rw [hd]; rfl
          rw [hdr] at this
          exact this
      · rw [if_neg (fun h => c0 (b0.1 h)), bad, if_neg (fun h => c0 (Option.some.inj h.2.2.1))]
theorem ten13 : 1099511627776 < 10 ^ (12 + 1) := by decide
theorem ref_true (s : ByteArray) (n : Nat) (h : 1 ≤ n ∧ n ≤ 1099511627776) (hs : s.data.toList = 0 :: Lib.decDigits n) : refOrph s = ((n : Int), true) := by
  obtain ⟨d1, d2, d3, d4⟩ := dec_digits n
  have hl := dec_length 12 n (Nat.lt_of_le_of_lt h.2 ten13)
  have hz : s.size = (Lib.decDigits n).length + 1 := by rw [← lenL, hs]; rfl
  have hne : 1 ≤ (Lib.decDigits n).length := by
    rcases hd : Lib.decDigits n with _ | ⟨a, r⟩
    · exact absurd hd d3
    · simp
  unfold refOrph
  rw [if_pos ⟨by omega, by omega, by rw [hs]; rfl, by rw [hs]; exact d4 h.1⟩, hs, List.tail_cons, decFrom_val _ _ d1, d2]
  exact if_pos h
theorem orphanV_true (s : ByteArray) (n : Nat) (h : 1 ≤ n ∧ n ≤ 1099511627776) (hs : s.data.toList = 0 :: Lib.decDigits n) : orphanV s = ((n : Int), true) := by
  obtain ⟨d1, d2, d3, d4⟩ := dec_digits n
  have hl := dec_length 12 n (Nat.lt_of_le_of_lt h.2 ten13)
  have ha := atoi_digits _ (by omega) d3 d1
  rw [d2] at ha
  rw [orphanV_ok s (n : Int) (by rw [hs]; rfl) (by rw [hs]; exact ha), itoa_nat, hs, if_pos ⟨by omega, by omega, rfl⟩]
theorem orphanV_spec (s : ByteArray) : orphanV s = (0, false) ∨ ∃ n : Nat, (1 ≤ n ∧ n ≤ 1099511627776) ∧ s.data.toList = 0 :: Lib.decDigits n := by
  by_cases hh : s.data.toList.head? = some 0
  · by_cases hb : ∀ n, Lib.atoiAll s.data.toList.tail ≠ .ok n
    · exact .inl (orphanV_bad s hh hb)
    · simp only [Classical.not_forall, ne_eq, Classical.not_not] at hb
      obtain ⟨n, hn⟩ := hb
      rw [orphanV_ok s n hh hn]
      by_cases hc : 1 ≤ n ∧ n ≤ 1099511627776 ∧ 0 :: Lib.itoa n = s.data.toList
      · obtain ⟨u, rfl⟩ : ∃ u : Nat, n = (u : Int) := ⟨n.toNat, by omega⟩
        exact .inr ⟨u, ⟨by omega, by omega⟩, by rw [← itoa_nat]; exact hc.2.2.symm⟩
      · exact .inl (if_neg hc)
  · exact .inl (orphanV_other s hh)
theorem ref_spec (s : ByteArray) : refOrph s = (0, false) ∨ ∃ n : Nat, (1 ≤ n ∧ n ≤ 1099511627776) ∧ s.data.toList = 0 :: Lib.decDigits n := by
  unfold refOrph
  split
  · next h =>
    obtain ⟨h1, h2, h3, h4⟩ := h
    unfold refV
    split
    · next n hn =>
      split
      · next hr =>
        rcases hd : s.data.toList with _ | ⟨c, t⟩
        · rw [hd] at h3; cases h3
        · rw [hd] at h3 h4 hn
          obtain rfl : c = 0 := Option.some.inj h3
          simp only [List.tail_cons] at h4 hn
          have hdig : ∀ x ∈ t, isDig x := by
            intro x hx
            obtain ⟨i, hi, rfl⟩ := List.mem_iff_getElem.1 hx
            obtain ⟨d, hd'⟩ := Lib.digit_of_decFrom t 0 n hn i _ (List.getElem?_eq_getElem hi)
            have := Lib.digitVal_eq hd'
            exact ⟨this.1, this.2.1⟩
          have hne : t ≠ [] := by
            intro e
            rw [e] at hd
            have : s.size = 1 := by rw [← lenL, hd]; rfl
            omega
          have hv : val10 0 t = n := Option.some.inj ((decFrom_val t 0 hdig).symm.trans hn)
          obtain ⟨h5, _⟩ := dec_back t.length t rfl hne hdig h4
          rw [hv] at h5
          exact .inr ⟨n, hr, by rw [h5]⟩
      · exact .inl rfl
    · exact .inl rfl
  · exact .inl rfl
theorem orph_eq (s : ByteArray) : refOrph s = orphanV s := by
  rcases ref_spec s with h | ⟨n, h1, h2⟩
  · rcases orphanV_spec s with h' | ⟨n, h1, h2⟩
    · rw [h, h']
    · rw [ref_true s n h1 h2, orphanV_true s n h1 h2]
  · rw [ref_true s n h1 h2, orphanV_true s n h1 h2]
end Go.Proofs.YtofdpgcnconibaaGreatDoor.PathP
