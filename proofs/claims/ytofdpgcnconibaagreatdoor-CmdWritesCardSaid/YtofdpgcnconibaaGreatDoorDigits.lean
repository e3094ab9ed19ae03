import Derived.Test.YtofdpgcnconibaaGreatDoorPAx3
import Derived.Test.YtofdpgcnconibaaGreatDoorPAx4
import Derived.Lib.AtoiTie
import Derived.Lib.ItoaMem
import Derived.Test.YtofdpgcnconibaaGreatDoorPathG
/-! Decimal numerals: there and back, plain. -/
set_option linter.unusedVariables false
set_option linter.unusedSimpArgs false
namespace Go.Proofs.YtofdpgcnconibaaGreatDoor.PathP
open Go.RowKit
def isDig (c : UInt8) : Prop := 48 ≤ c.toNat ∧ c.toNat ≤ 57
instance (c : UInt8) : Decidable (isDig c) := by unfold isDig; infer_instance
/-- The number that digits spell, behind others. -/
def val10 (acc : Nat) : List UInt8 → Nat
  | [] => acc
  | c :: r => val10 (acc * 10 + (c.toNat - 48)) r
theorem decFrom_cons (acc d : Nat) (c : UInt8) (l : List UInt8) (h : Lib.digitVal c = some d) : Lib.decFrom acc (c :: l) = Lib.decFrom (acc * 10 + d) l := by
  rw [Lib.decFrom, h]
theorem decFrom_val : ∀ (l : List UInt8) (acc : Nat), (∀ c ∈ l, isDig c) → Lib.decFrom acc l = some (val10 acc l)
  | [], acc, _ => rfl
  | c :: l, acc, h => by
    have hc : isDig c := h c (List.mem_cons_self ..)
    have hv : Lib.digitVal c = some (c.toNat - 48) := if_pos hc
    rw [decFrom_cons acc _ c l hv, decFrom_val l _ (fun d hd => h d (List.mem_cons_of_mem _ hd))]
    rfl
theorem val10_snoc (l : List UInt8) (c : UInt8) : ∀ acc, val10 acc (l ++ [c]) = val10 acc l * 10 + (c.toNat - 48) := by
  induction l with
  | nil => intro acc; rfl
  | cons d l ih => intro acc; exact ih _
theorem dec_digits (u : Nat) : (∀ c ∈ Lib.decDigits u, isDig c) ∧ val10 0 (Lib.decDigits u) = u ∧ Lib.decDigits u ≠ [] ∧ (1 ≤ u → (Lib.decDigits u).head? ≠ some 48) := by
  induction u using Nat.strongRecOn with
  | _ u ih =>
    rw [Lib.decDigits]
    split
    · next h =>
      have e : (UInt8.ofNat (48 + u)).toNat = 48 + u := UInt8.toNat_ofNat_of_lt' (by show _ < 256; omega)
      refine ⟨?_, ?_, by simp, ?_⟩
      · intro c hc
        rw [List.mem_singleton] at hc
        subst hc
        unfold isDig
        rw [e]; clear e; omega
      · show 0 * 10 + ((UInt8.ofNat (48 + u)).toNat - 48) = u
        rw [e]; clear e; omega
      · intro h1 h2
        have h3 : 48 + u = 48 := e.symm.trans (congrArg UInt8.toNat (Option.some.inj h2))
        clear h2 e
        omega
    · next h =>
      obtain ⟨h1, h2, h3, h4⟩ := ih (u / 10) (by omega)
      have e : (UInt8.ofNat (48 + u % 10)).toNat = 48 + u % 10 := UInt8.toNat_ofNat_of_lt' (by show _ < 256; omega)
      refine ⟨?_, ?_, by simp, ?_⟩
      · intro c hc
        rcases List.mem_append.1 hc with hc | hc
        · exact h1 c hc
        · rw [List.mem_singleton] at hc
          subst hc
          unfold isDig
          rw [e]; clear e; omega
      · rw [val10_snoc, h2, e]; clear e; omega
      · intro _
        have := h4 (by omega)
        rcases hd : Lib.decDigits (u / 10) with _ | ⟨a, r⟩
        · exact absurd hd h3
        · rw [hd] at this
          exact this
theorem dec_length (k : Nat) : ∀ u, u < 10 ^ (k + 1) → (Lib.decDigits u).length ≤ k + 1 := by
  induction k with
  | zero =>
    intro u h
    rw [Lib.decDigits, dif_pos (by simpa using h)]
    simp
  | succ k ih =>
    intro u h
    rw [Lib.decDigits]
    split
    · simp
    · rw [List.length_append]
      have := ih (u / 10) (by rw [Nat.pow_succ] at h; omega)
      simp only [List.length_cons, List.length_nil]
      omega
theorem dig_of (c : UInt8) (h : isDig c) : ∃ d : Nat, d < 10 ∧ c.toNat - 48 = d ∧ UInt8.ofNat (48 + d) = c ∧ (d = 0 → c = 48) := by
  have key : ∀ c : UInt8, isDig c → (c.toNat - 48 < 10 ∧ UInt8.ofNat (48 + (c.toNat - 48)) = c ∧ (c.toNat - 48 = 0 → c = 48)) := by
    intro c
    have : ∀ n : Fin 256, isDig (UInt8.ofNat n.val) → ((UInt8.ofNat n.val).toNat - 48 < 10 ∧ UInt8.ofNat (48 + ((UInt8.ofNat n.val).toNat - 48)) = UInt8.ofNat n.val ∧ ((UInt8.ofNat n.val).toNat - 48 = 0 → UInt8.ofNat n.val = 48)) := by decide +kernel
    have h := this ⟨c.toNat, c.toNat_lt⟩
    rw [show UInt8.ofNat (⟨c.toNat, c.toNat_lt⟩ : Fin 256).val = c from UInt8.ofNat_toNat] at h
    exact h
  obtain ⟨h1, h2, h3⟩ := key c h
  exact ⟨_, h1, rfl, h2, h3⟩
/-- Digits that don't begin with a zero are the numeral of what they spell. -/
theorem dec_back (n : Nat) : ∀ t : List UInt8, t.length = n → t ≠ [] → (∀ c ∈ t, isDig c) → t.head? ≠ some 48 → Lib.decDigits (val10 0 t) = t ∧ 1 ≤ val10 0 t := by
  induction n with
  | zero => intro t h h0; exact absurd (List.eq_nil_of_length_eq_zero h) h0
  | succ n ih =>
    intro t hl h0 hd hh
    obtain ⟨r, c, rfl⟩ : ∃ r c, t = r ++ [c] := ⟨t.dropLast, t.getLast h0, (List.dropLast_concat_getLast h0).symm⟩
    obtain ⟨d, hd1, hd2, hd3, hd4⟩ := dig_of c (hd c (by simp))
    have hl2 : r.length = n := by
      rw [List.length_append] at hl
      exact Nat.add_right_cancel hl
    rcases r with _ | ⟨a, r⟩
    · have hc0 : d ≠ 0 := fun e => hh (by rw [hd4 e]; rfl)
      have hv : val10 0 ([] ++ [c]) = d := by
        show 0 * 10 + (c.toNat - 48) = d
        rw [hd2, Nat.zero_mul, Nat.zero_add]
      rw [hv]
      clear hv hd2 hd4 hh hd
      refine ⟨?_, by omega⟩
      rw [Lib.decDigits, dif_pos (by omega), hd3]; rfl
    · obtain ⟨h1, h2⟩ := ih (a :: r) hl2 (by simp) (fun x hx => hd x (by rw [List.mem_append]; exact .inl hx)) hh
      rw [val10_snoc, hd2]
      generalize val10 0 (a :: r) = m at *
      clear hd2 hd4 hh hd ih
      refine ⟨?_, by omega⟩
      have e1 : (m * 10 + d) / 10 = m := by omega
      have e2 : (m * 10 + d) % 10 = d := by omega
      rw [Lib.decDigits, dif_neg (by omega), e1, e2, h1, hd3]
theorem itoa_nat (u : Nat) : Lib.itoa (u : Int) = Lib.decDigits u := Lib.itoa_nonneg u
theorem atoi_digits (t : List UInt8) (hl : t.length ≤ 18) (h0 : t ≠ []) (hd : ∀ c ∈ t, isDig c) : Lib.atoiAll t = .ok (val10 0 t : Int) := by
  rw [Lib.atoiAll_short t hl]
  rcases t with _ | ⟨c, r⟩
  · exact absurd rfl h0
  · have hc := hd c (List.mem_cons_self ..)
    unfold isDig at hc
    have c1 : (c == 45) = false := by rw [beq_eq_false_iff_ne]; intro e; rw [e] at hc; exact absurd hc.1 (by decide)
    have c2 : (c == 43) = false := by rw [beq_eq_false_iff_ne]; intro e; rw [e] at hc; exact absurd hc.1 (by decide)
    have hdn : Lib.decNat (c :: r) = some (val10 0 (c :: r)) := by
      unfold Lib.decNat
      rw [if_neg (by simp)]
      exact decFrom_val (c :: r) 0 hd
    simp only [Lib.atoi, c1, c2, hdn, Bool.false_eq_true, if_false, Option.map_some]
    rfl
end Go.Proofs.YtofdpgcnconibaaGreatDoor.PathP
