import Derived.Test.YtkfmilfmpmmpkaaDoorPBx13
import Derived.Test.YtkfmilfmpmmpkaaDoorPBx18
import Derived.Test.YtkfmilfmpmmpkaaDoorPBx20
import Derived.Test.YtkfmilfmpmmpkaaDoorPBx21
import Derived.Test.YtkfmilfmpmmpkaaDoorPathR
import Derived.Test.YtkfmilfmpmmpkaaDoorPathL
import Derived.Test.YtkfmilfmpmmpkaaDoorTargetR
/-! Paths: where a target leads, the document's. -/
set_option linter.unusedVariables false
set_option linter.unusedSimpArgs false
namespace Go.Proofs.YtkfmilfmpmmpkaaDoor.PathP
open Go.RowKit Go.Proofs.YtkfmilfmpmmpkaaDoor.PB Go.Proofs.YtkfmilfmpmmpkaaDoorW.PrintWords Go.Proofs.YtkfmilfmpmmpkaaDoorW.PrintLast Go.Proofs.YtkfmilfmpmmpkaaDoorW.PrintMore
open Go.Proofs.YtkfmilfmpmmpkaaDoor.Plain Go.Proofs.YtkfmilfmpmmpkaaDoor.TargetP
theorem rlead_l0 (l : List ByteArray) (hl : l.length ≤ 2000000) (N : Nat) (hN : ∀ x ∈ l, x.size ≤ N) (hN2 : N ≤ 1000000) : ∀ (m k i : Nat), l.length = i + m → m + N + 5 < k →
    coppiceref12_Lead.l0 k l (i : Int) = some (if (l.drop i).all stepB = true ∧ l.length ≤ 32 then (l, false, 0) else ([], false, 120))
  | 0, k, i, hz, hk => by
    obtain ⟨k, rfl⟩ : ∃ q, k = q + 1 := ⟨k - 1, by omega⟩
    simp only [coppiceref12_Lead.l0]
    rw [if_neg (by omega), List.drop_of_length_le (by omega)]
    by_cases h32 : (l.length : Int) > 32
    · rw [if_pos h32, if_neg (fun h => absurd h.2 (by omega))]
    · rw [if_neg h32, if_pos ⟨rfl, by omega⟩]
  | m + 1, k, i, hz, hk => by
    obtain ⟨k, rfl⟩ : ∃ q, k = q + 1 := ⟨k - 1, by omega⟩
    have hi : i < l.length := by omega
    have hx : (rdOf ByteArray.empty l (i : Int)).size ≤ N := by rw [rd_get l i hi]; exact hN _ (List.getElem_mem hi)
    simp only [coppiceref12_Lead.l0]
    rw [if_pos (by omega), if_pos (by omega), rname_f _ (by omega) k (by omega), Option.bind_some, drop_rd l i hi, List.all_cons, wrapn (by omega), rlead_l0 l hl N hN hN2 m k (i + 1) (by omega) (by omega)]
    cases hn : nameB (rdOf ByteArray.empty l (i : Int)) with
    | true =>
      have hs : stepB (rdOf ByteArray.empty l (i : Int)) = true := by unfold stepB; rw [hn, Bool.or_true]
      rw [if_pos rfl, hs, Bool.true_and]
    | false =>
      by_cases h : rdOf ByteArray.empty l (i : Int) = ofL [46, 46]
      · have hs : stepB (rdOf ByteArray.empty l (i : Int)) = true := by unfold stepB; rw [decide_eq_true h, Bool.true_or]
        rw [if_neg (by decide), if_pos ((toList_iff _ _).2 h), hs, Bool.true_and]
      · have hs : stepB (rdOf ByteArray.empty l (i : Int)) = false := by unfold stepB; rw [decide_eq_false h, hn]; rfl
        rw [if_neg (by decide), if_neg (fun e => h ((toList_iff _ _).1 e)), hs]
        rfl
theorem rlead_f (s : ByteArray) (hs : s.size ≤ 1000000) (k : Nat) (hk : 4 * s.size + 100 ≤ k) : coppiceref12_Lead.f k s = some (leadR s) := by
  unfold coppiceref12_Lead.f leadR
  rw [rtarget_ok s (by omega) k (by omega), Option.bind_some]
  by_cases ht : tgt s = true
  · have h1 : 1 ≤ s.size := by
      unfold tgt at ht
      simp only [Bool.and_eq_true, decide_eq_true_eq] at ht
      exact ht.1
    rw [if_pos ht, if_pos ht, if_pos (by omega)]
    have hb : bt s 0 = 47 ↔ s[0]'(by omega) = 47 := bt_eq s 0 (by omega) 47 (by decide)
    have hh : s.data.toList.head? = some (s[0]'(by omega)) := by
      have := dropL s 0 (by omega)
      rw [List.drop_zero] at this
      rw [this]; rfl
    by_cases hc : s[0]'(by omega) = 47
    · rw [if_pos (hb.2 hc), if_pos (by rw [hh, hc]), rsplit_f s hs k (by omega), Option.bind_some]
    · rw [if_neg (fun h => hc (hb.1 h)), if_neg (by rw [hh]; exact fun h => hc (Option.some.inj h)), rcut_f s hs k (by omega), Option.bind_some]
      have hlen : (cutS s).length ≤ s.size + 1 := by
        unfold cutS
        rw [cutFrom_len]
        have := List.count_le_length (a := (47 : UInt8)) (l := s.data.toList)
        rw [lenL] at this
        omega
      have := rlead_l0 (cutS s) (by omega) s.size (cutS_sizes s) hs (cutS s).length k 0 (by omega) (by omega)
      rw [List.drop_zero] at this
      rw [show (0 : Int) = ((0 : Nat) : Int) from rfl, this]
      by_cases ha : (cutS s).length ≤ 32 ∧ (cutS s).all stepB = true
      · rw [if_pos ha, if_pos ⟨ha.2, ha.1⟩]; first | done | rfl
      · rw [if_neg ha, if_neg (fun h => ha ⟨h.2, h.1⟩)]; first | done | rfl
  · rw [if_neg ht, if_neg ht]
end Go.Proofs.YtkfmilfmpmmpkaaDoor.PathP
