import Derived.Test.YtgnffienfjigiaaDoorPAx9
import Derived.Test.YtgnffienfjigiaaDoorSpE
import Derived.Test.YtgnffienfjigiaaDoorSpR
/-! The program's Ranges. -/
set_option linter.unusedVariables false
set_option linter.unusedSimpArgs false
namespace Go.Proofs.YtgnffienfjigiaaDoor.SpP
open Go.RowKit Go.Proofs.YtgnffienfjigiaaDoor.PA Go.Proofs.YtgnffienfjigiaaDoorW.PrintWords Go.Proofs.YtgnffienfjigiaaDoorW.PrintMore
open Go.Proofs.YtgnffienfjigiaaDoor.Plain
theorem mn_eq (a b : Int) : mn a b = min a b := by unfold mn; omega
theorem rdR_last (d : List Rg) (x : Rg) : rd_T37 (d ++ [x]) (d.length : Int) = x := by
  unfold rd_T37
  rw [Int.toNat_natCast, List.getD_eq_getElem?_getD, List.getElem?_append_right (Nat.le_refl _), Nat.sub_self]
  rfl
theorem set_last (d : List Rg) (x y : Rg) : (d ++ [x]).set d.length y = d ++ [y] := by
  rw [List.set_append_right _ _ (Nat.le_refl _), Nat.sub_self]
  rfl
theorem ranges_l0 (size : Int) (h0 : 0 ≤ size) (h1 : size ≤ 4611686018427387904) (l : List Pc) (hl : l.length ≤ 1000000000) (hp : ∀ p ∈ l, 0 ≤ p.f0 ∧ p.f0 * 64 < size) (n : Nat) : ∀ (k j : Nat) (d : List Rg) (a b : Int), n = l.length - j → n < k → j ≤ l.length → d.length ≤ j →
    sparse_Ranges.l0 k size (d ++ [⟨a, b⟩]) l (l.length : Int) (j : Int) = some (d ++ rangesB size a b (l.drop j), 0) := by
  induction n with
  | zero =>
    intro k j d a b hn hk hj hd
    obtain ⟨k, rfl⟩ : ∃ q, k = q + 1 := ⟨k - 1, by omega⟩
    simp only [sparse_Ranges.l0]
    rw [if_neg (by omega), List.drop_of_length_le (by omega)]
    rfl
  | succ n ih =>
    intro k j d a b hn hk hj hd
    obtain ⟨k, rfl⟩ : ∃ q, k = q + 1 := ⟨k - 1, by omega⟩
    have hlen : ((d ++ [(⟨a, b⟩ : Rg)]).length : Int) = (d.length : Int) + 1 := by rw [List.length_append]; simp
    have hq := hp _ (rd_mem l j (by omega))
    rw [dropP l j (by omega)]
    obtain ⟨p, hpe⟩ : ∃ p, rd_T39 l (j : Int) = p := ⟨_, rfl⟩
    rw [hpe] at hq ⊢
    have e1 : wrap64 (p.f0 * 64) = p.f0 * 64 := w64 (by omega) (by omega)
    have e2 : wrap64 (size - p.f0 * 64) = size - p.f0 * 64 := w64 (by omega) (by omega)
    have e3 : wrap64 (p.f0 * 64 + min 64 (size - p.f0 * 64)) = p.f0 * 64 + min 64 (size - p.f0 * 64) := w64 (by omega) (by omega)
    have e4 : wrap64 ((d.length : Int) + 1 - 1) = (d.length : Int) := by rw [w64 (by omega) (by omega)]; omega
    have e5 : (d ++ [(⟨a, b⟩ : Rg)]).length < 8796093022208 := by rw [List.length_append]; simp; omega
    simp only [sparse_Ranges.l0]
    rw [hpe, hlen, if_pos (by omega), if_pos (by omega), if_pos (by omega), if_pos (by omega), e4, if_pos (by omega), if_pos (by omega), rdR_last, e1, mn_eq, e2, e3, w1 (by omega), Int.toNat_natCast, set_last, if_pos e5]
    show _ = some (d ++ (if b = p.f0 * 64 then rangesB size a (p.f0 * 64 + min 64 (size - p.f0 * 64)) (l.drop (j + 1)) else ⟨a, b⟩ :: rangesB size (p.f0 * 64) (p.f0 * 64 + min 64 (size - p.f0 * 64)) (l.drop (j + 1))), 0)
    by_cases c : b = p.f0 * 64
    · rw [if_pos c, if_pos c]
      exact ih k (j + 1) d a _ (by omega) (by omega) (by omega) (by omega)
    · rw [if_neg c, if_neg c]
      exact (ih k (j + 1) (d ++ [(⟨a, b⟩ : Rg)]) _ _ (by omega) (by omega) (by omega) (by rw [List.length_append]; simp; omega)).trans (by rw [List.append_assoc]; rfl)
theorem ranges_f (l : List Pc) (size : Int) (hl : l.length ≤ 1000000) (k : Nat) (hk : 2 * l.length + 2 < k) : sparse_Ranges.f k l size = some (if goodB l size = true then (rangesL size l, 0) else ([], 21)) := by
  unfold sparse_Ranges.f
  rw [check_f l size (by omega) k (by omega), Option.bind_some]
  by_cases g : goodB l size = true
  · have hg := (goodB_iff _ _).1 g
    rw [if_pos g, if_pos g, if_pos rfl]
    obtain ⟨k, rfl⟩ : ∃ q, k = q + 1 := ⟨k - 1, by omega⟩
    simp only [sparse_Ranges.l0]
    cases l with
    | nil => rfl
    | cons p l =>
      have hq := hg.idx p (List.mem_cons_self ..)
      have hi := hg.hi
      have er : rd_T39 (p :: l) 0 = p := rfl
      rw [if_pos (by simp only [List.length_cons]; omega), if_pos (by omega), if_pos (by simp only [List.length_cons]; omega), if_neg (by simp), if_pos (by simp), er]
      have e1 : wrap64 (p.f0 * 64) = p.f0 * 64 := w64 (by omega) (by omega)
      have e2 : wrap64 (size - p.f0 * 64) = size - p.f0 * 64 := w64 (by omega) (by omega)
      have e3 : wrap64 (p.f0 * 64 + min 64 (size - p.f0 * 64)) = p.f0 * 64 + min 64 (size - p.f0 * 64) := w64 (by omega) (by omega)
      rw [e1, mn_eq, e2, e3, show wrap64 (0 + 1) = ((1 : Nat) : Int) from w64 (by omega) (by omega), ranges_l0 size hg.lo hi (p :: l) (by omega) hg.idx l.length k 1 [] _ _ (by simp) (by simp only [List.length_cons] at hk; omega) (by simp) (by simp)]
      rfl
  · rw [if_neg g, if_neg g, if_neg (by decide)]
end Go.Proofs.YtgnffienfjigiaaDoor.SpP
