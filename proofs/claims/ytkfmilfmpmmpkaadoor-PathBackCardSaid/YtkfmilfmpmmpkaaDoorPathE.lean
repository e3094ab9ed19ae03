import Derived.Test.YtkfmilfmpmmpkaaDoorPBx1
import Derived.Test.YtkfmilfmpmmpkaaDoorPBx14
import Derived.Test.YtkfmilfmpmmpkaaDoorPathG
/-! Lists of texts: the same? -/
set_option linter.unusedVariables false
namespace Go.Proofs.YtkfmilfmpmmpkaaDoor.PathP
open Go.RowKit Go.Proofs.YtkfmilfmpmmpkaaDoor.PB Go.Proofs.YtkfmilfmpmmpkaaDoorW.PrintWords Go.Proofs.YtkfmilfmpmmpkaaDoorW.PrintLast Go.Proofs.YtkfmilfmpmmpkaaDoorW.PrintMore
open Go.Proofs.YtkfmilfmpmmpkaaDoor.Plain
theorem same_l0 (a b : List ByteArray) (hl : a.length = b.length) (ha : a.length ≤ 1000000) : ∀ (m k i : Nat), a.length = i + m → m < k → coppiceref12_Same.l0 k a b (i : Int) = some (decide (a.drop i = b.drop i))
  | 0, k, i, hz, hk => by
    obtain ⟨k, rfl⟩ : ∃ q, k = q + 1 := ⟨k - 1, by omega⟩
    simp only [coppiceref12_Same.l0]
    rw [if_neg (by omega), List.drop_of_length_le (by omega), List.drop_of_length_le (by omega)]
    rfl
  | m + 1, k, i, hz, hk => by
    obtain ⟨k, rfl⟩ : ∃ q, k = q + 1 := ⟨k - 1, by omega⟩
    simp only [coppiceref12_Same.l0]
    rw [if_pos (by omega), if_pos (by omega), if_pos (by omega), drop_rd a i (by omega), drop_rd b i (by omega)]
    by_cases h : rdOf ByteArray.empty a (i : Int) = rdOf ByteArray.empty b (i : Int)
    · rw [if_pos (by rw [h]), wrapn (by omega), same_l0 a b hl ha m k (i + 1) (by omega) (by omega), h]
      congr 1
      simp
    · rw [if_neg (fun e => h (by rw [ByteArray.toList_eq, ByteArray.toList_eq] at e; exact ext_list e)), decide_eq_false (fun e => h (by injection e))]
theorem same_f (a b : List ByteArray) (ha : a.length ≤ 1000000) (k : Nat) (hk : a.length < k) : coppiceref12_Same.f k a b = some (decide (a = b)) := by
  unfold coppiceref12_Same.f
  by_cases hl : a.length = b.length
  · rw [if_pos (by omega)]
    have := same_l0 a b hl ha a.length k 0 (by omega) hk
    exact this
  · rw [if_neg (by omega), decide_eq_false (fun e => hl (by rw [e]))]
end Go.Proofs.YtkfmilfmpmmpkaaDoor.PathP
