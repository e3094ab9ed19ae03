import Derived.Test.YtkfmilfmpmmpkaaDoorPBx6
import Derived.Test.YtkfmilfmpmmpkaaDoorPBx8
import Derived.Test.YtkfmilfmpmmpkaaDoorPBx9
import Derived.Test.YtkfmilfmpmmpkaaDoorDigits
/-! Orphans' names are written alike. -/
set_option linter.unusedVariables false
set_option linter.unusedSimpArgs false
namespace Go.Proofs.YtkfmilfmpmmpkaaDoor.PathP
open Go.RowKit Go.Proofs.YtkfmilfmpmmpkaaDoor.PB Go.Proofs.YtkfmilfmpmmpkaaDoorW.PrintWords Go.Proofs.YtkfmilfmpmmpkaaDoorW.PrintLast Go.Proofs.YtkfmilfmpmmpkaaDoorW.PrintMore
open Go.Proofs.YtkfmilfmpmmpkaaDoor.Plain
theorem strOf_dig (d : Nat) (hd : d < 10) : strOfNums [(wrap64 (48 + (d : Int))) % 256] = ofL [UInt8.ofNat (48 + d)] := by
  have e : wrap64 (48 + (d : Int)) = ((48 + d : Nat) : Int) := by rw [wrap_in (by omega) (by omega)]; omega
  rw [e]
  apply ext_list
  rw [toList_ofL, strOfNums_data]
  simp only [List.map_cons, List.map_nil]
  have e2 : ((48 + d : Nat) : Int) % 256 = ((48 + d : Nat) : Int) := by omega
  rw [e2]
  rfl
theorem digits_l0 : ∀ (k n : Nat) (acc : ByteArray), n < 1000000000000000000 → n < 10 ^ k → acc.size + k ≤ 1000 → coppiceref12_Digits.l0 (k + 1) (n : Int) acc = some (ofL (Lib.decDigits n) ++ acc)
  | 0, n, acc, hn, hk, ha => by
    obtain rfl : n = 0 := by simpa using hk
    simp only [coppiceref12_Digits.l0]
    rw [if_neg (by omega), Option.bind_some]
    have := strOf_dig 0 (by omega)
    rw [this, if_pos (by rw [show (ofL [UInt8.ofNat (48 + 0)]).size = 1 from rfl]; omega), Lib.decDigits, dif_pos (by omega)]
  | k + 1, n, acc, hn, hk, ha => by
    rw [coppiceref12_Digits.l0]
    by_cases h9 : (n : Int) > 9
    · rw [if_pos h9, Option.bind_some]
      have e1 : Int.tmod (n : Int) 10 = ((n % 10 : Nat) : Int) := by rw [Int.tmod_eq_emod_of_nonneg (by omega)]; omega
      have e2 : wrap64 (Int.tdiv (n : Int) 10) = ((n / 10 : Nat) : Int) := by
        rw [Int.tdiv_eq_ediv_of_nonneg (by omega), wrap_in (by omega) (by omega)]; omega
      rw [e1, e2, strOf_dig (n % 10) (by omega), if_pos (by rw [show (ofL [UInt8.ofNat (48 + n % 10)]).size = 1 from rfl]; omega)]
      clear e1 e2
      rw [digits_l0 k (n / 10) _ (by omega) (by rw [Nat.pow_succ] at hk; omega) (by rw [ByteArray.size_append, show (ofL [UInt8.ofNat (48 + n % 10)]).size = 1 from rfl]; omega)]
      congr 1
      have hd : Lib.decDigits n = Lib.decDigits (n / 10) ++ [UInt8.ofNat (48 + n % 10)] := by
        rw [Lib.decDigits, dif_neg (by omega)]
      apply ext_list
      rw [hd, append_list, append_list, append_list, toList_ofL, toList_ofL, toList_ofL, List.append_assoc]
    · rw [if_neg h9, Option.bind_some, strOf_dig n (by omega), if_pos (by rw [show (ofL [UInt8.ofNat (48 + n)]).size = 1 from rfl]; omega), Lib.decDigits, dif_pos (by omega)]
/-- What Orphan answers. -/
def orphR (n : Int) : ByteArray × Int := if 1 ≤ n ∧ n ≤ 1099511627776 then (ofL (0 :: Lib.decDigits n.toNat), 0) else (⟨#[]⟩, 1)
theorem orphan_f (n : Int) : path_Orphan.f n = some (orphR n) := by
  unfold orphR
  by_cases h : 1 ≤ n ∧ n ≤ 1099511627776
  · obtain ⟨u, rfl⟩ : ∃ u : Nat, n = (u : Int) := ⟨n.toNat, by omega⟩
    rw [orphan_text _ h, if_pos h, itoa_nat, Int.toNat_natCast]; first | done | rfl
  · rw [orphan_small n h, if_neg h]
theorem rorphan_f (n : Int) (k : Nat) (hk : 20 ≤ k) : coppiceref12_Orphan.f k n = some (orphR n) := by
  unfold coppiceref12_Orphan.f orphR
  by_cases h : 1 ≤ n ∧ n ≤ 1099511627776
  · obtain ⟨u, rfl⟩ : ∃ u : Nat, n = (u : Int) := ⟨n.toNat, by omega⟩
    have hu : u < 10 ^ 13 := Nat.lt_of_le_of_lt (by omega : u ≤ 1099511627776) (by decide)
    have key : coppiceref12_Digits.f k (u : Int) = some (ofL (Lib.decDigits u)) := by
      have h14 := digits_l0 13 u ⟨#[]⟩ (Nat.lt_trans hu (by decide)) hu (by decide)
      have h14' : coppiceref12_Digits.f 14 (u : Int) = some (ofL (Lib.decDigits u) ++ ⟨#[]⟩) := h14
      rw [append_empty] at h14'
      exact at_rounds (fun k => coppiceref12_Digits.mono _ k) (by omega) h14'
    have hl := dec_length 12 u hu
    have hz : (ofL (Lib.decDigits u)).size = (Lib.decDigits u).length := by show (Lib.decDigits u).toArray.size = _; simp
    rw [if_neg (by omega), if_neg (by omega), key, Option.bind_some, if_pos (by omega), if_pos h, Int.toNat_natCast]
    congr 2
  · rw [if_neg h]
    by_cases h1 : n < 1
    · rw [if_pos h1]
    · rw [if_neg h1, if_pos (by omega)]
end Go.Proofs.YtkfmilfmpmmpkaaDoor.PathP
