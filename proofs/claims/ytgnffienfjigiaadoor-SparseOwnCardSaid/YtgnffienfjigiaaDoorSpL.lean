import Derived.Test.YtgnffienfjigiaaDoorPAx11
import Derived.Test.YtgnffienfjigiaaDoorSpJ
/-! The document's Truncate, Punch; Same. -/
set_option linter.unusedVariables false
set_option linter.unusedSimpArgs false
namespace Go.Proofs.YtgnffienfjigiaaDoor.SpP
open Go.RowKit Go.Proofs.YtgnffienfjigiaaDoor.PA Go.Proofs.YtgnffienfjigiaaDoorW.PrintWords Go.Proofs.YtgnffienfjigiaaDoorW.PrintMore
open Go.Proofs.YtgnffienfjigiaaDoor.Plain
theorem mapR_snoc (n : Nat) (g : Nat → Int) : (List.range (n + 1)).map g = (List.range n).map g ++ [g n] := by
  rw [List.range_succ, List.map_append]
  rfl
theorem cut_take (l : List Pc) (j : Nat) (hj : j < l.length) (a b : Int) (gone : Int → Bool) : cutL (l.take (j + 1)) a b gone = if gone (rd_T39 l (j : Int)).f0 = true then cutL (l.take j) a b gone else cutL (l.take j) a b gone ++ [clr a b (rd_T39 l (j : Int))] := by
  have e : l.take (j + 1) = l.take j ++ [rd_T39 l (j : Int)] := by
    rw [List.take_add_one, List.getElem?_eq_getElem hj]
    unfold rd_T39
    rw [Int.toNat_natCast, List.getD_eq_getElem?_getD, List.getElem?_eq_getElem hj]
    rfl
  rw [e]
  unfold cutL
  rw [List.filter_append, List.map_append]
  by_cases h : gone (rd_T39 l (j : Int)).f0 = true
  · rw [if_pos h]
    simp [h]
  · rw [if_neg h]
    simp [h]
theorem cut_take_len (l : List Pc) (j : Nat) (a b : Int) (gone : Int → Bool) : (cutL (l.take j) a b gone).length ≤ l.length := by
  refine Nat.le_trans (cut_len _ _ _ _) ?_
  rw [List.length_take]
  omega
/-! Same -/
theorem same_l (l : List Pc) (hl : l.length ≤ 1000000) (n : Nat) : ∀ k j : Nat, n = l.length - j → n < k → j ≤ l.length → coppiceref13_Same.l0 k l l (j : Int) = some true := by
  induction n with
  | zero =>
    intro k j hn hk hj
    obtain ⟨k, rfl⟩ : ∃ q, k = q + 1 := ⟨k - 1, by omega⟩
    simp only [coppiceref13_Same.l0]; rw [if_neg (by omega)]
  | succ n ih =>
    intro k j hn hk hj
    obtain ⟨k, rfl⟩ : ∃ q, k = q + 1 := ⟨k - 1, by omega⟩
    simp only [coppiceref13_Same.l0]
    rw [if_pos (by omega), if_pos (by omega), if_pos (by omega), if_neg (by simp), w1 (by omega)]
    exact ih k (j + 1) (by omega) (by omega) (by omega)
theorem same_f (l : List Pc) (hl : l.length ≤ 1000000) (k : Nat) (hk : l.length < k) : coppiceref13_Same.f k l l = some true := by
  unfold coppiceref13_Same.f
  rw [if_pos rfl]
  exact same_l l hl l.length k 0 (by omega) hk (by omega)
end Go.Proofs.YtgnffienfjigiaaDoor.SpP
