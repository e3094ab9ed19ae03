import Derived.Test.YtdkbikaheagbfaaPAx33
import Derived.Test.YtdkbikaheagbfaaPAx34
import Derived.Test.YtdkbikaheagbfaaNodeG
/-! Nodes: where a key stands. -/
namespace Go.Proofs.Ytdkbikaheagbfaa.NodeP
open Go.RowKit Go.Proofs.Ytdkbikaheagbfaa.PA Go.Proofs.YtdkbikaheagbfaaW.PrintWords Go.Proofs.YtdkbikaheagbfaaW.PrintLast Go.Proofs.YtdkbikaheagbfaaW.PrintMore
open Go.Proofs.Ytdkbikaheagbfaa.Plain
/-- The first key that isn't below, counted from i on, and whether it is this one. -/
def findB : List ByteArray → ByteArray → Int → Int × Bool
  | [], _, i => (i, false)
  | x :: r, key, i => if Op.bytesLess x.toList key.toList = true then findB r key (i + 1) else (i, x.toList == key.toList)
theorem ref_l2 (key : ByteArray) (ks : List ByteArray) (hl : ks.length ≤ 300) (n : Nat) : ∀ k j : Nat, n = ks.length - j → n < k → j ≤ ks.length →
    coppiceref06_Find.l2 k key ks (j : Int) = some (findB (ks.drop j) key j) := by
  induction n with
  | zero =>
    intro k j hn hk hj
    obtain ⟨k, rfl⟩ : ∃ q, k = q + 1 := ⟨k - 1, by omega⟩
    simp only [coppiceref06_Find.l2]
    rw [if_neg (by omega), List.drop_of_length_le (by omega)]
    rfl
  | succ n ih =>
    intro k j hn hk hj
    obtain ⟨k, rfl⟩ : ∃ q, k = q + 1 := ⟨k - 1, by omega⟩
    simp only [coppiceref06_Find.l2]
    have hd : ks.drop j = rdOf ByteArray.empty ks (j : Int) :: ks.drop (j + 1) := by
      rw [List.drop_eq_getElem_cons (show j < ks.length by omega)]
      unfold rdOf
      rw [Int.toNat_natCast, List.getD_eq_getElem?_getD, List.getElem?_eq_getElem (show j < ks.length by omega)]; rfl
    rw [if_pos (by omega), if_pos (by omega), wrapn (by omega), hd, ih k (j + 1) (by omega) (by omega) (by omega)]
    simp only [findB]
    split <;> rfl
theorem below_item (key : ByteArray) (l : List S44) (hl : l.length ≤ 300) (n : Nat) : ∀ k j : Nat, n = l.length - j → n < k → j ≤ l.length →
    node_below_Item_node_itemKey.l0 k l key l (l.length : Int) (j : Int) = some (findB ((l.drop j).map (·.f0)) key j) := by
  induction n with
  | zero =>
    intro k j hn hk hj
    obtain ⟨k, rfl⟩ : ∃ q, k = q + 1 := ⟨k - 1, by omega⟩
    simp only [node_below_Item_node_itemKey.l0]
    rw [if_neg (by omega), List.drop_of_length_le (by omega), show j = l.length by omega]
    rfl
  | succ n ih =>
    intro k j hn hk hj
    obtain ⟨k, rfl⟩ : ∃ q, k = q + 1 := ⟨k - 1, by omega⟩
    simp only [node_below_Item_node_itemKey.l0]
    rw [if_pos (by omega), if_pos (by omega), if_pos (by omega), wrapn (by omega), drop44 l j (by omega)]
    unfold node_itemKey.f
    rw [Option.bind_some, ih k (j + 1) (by omega) (by omega) (by omega)]
    simp only [List.map_cons, findB]
    split <;> rfl
theorem below_kid (key : ByteArray) (l : List S46) (hl : l.length ≤ 300) (n : Nat) : ∀ k j : Nat, n = l.length - j → n < k → j ≤ l.length →
    node_below_Kid_node_kidKey.l0 k l key l (l.length : Int) (j : Int) = some (findB ((l.drop j).map (·.f0)) key j) := by
  induction n with
  | zero =>
    intro k j hn hk hj
    obtain ⟨k, rfl⟩ : ∃ q, k = q + 1 := ⟨k - 1, by omega⟩
    simp only [node_below_Kid_node_kidKey.l0]
    rw [if_neg (by omega), List.drop_of_length_le (by omega), show j = l.length by omega]
    rfl
  | succ n ih =>
    intro k j hn hk hj
    obtain ⟨k, rfl⟩ : ∃ q, k = q + 1 := ⟨k - 1, by omega⟩
    simp only [node_below_Kid_node_kidKey.l0]
    rw [if_pos (by omega), if_pos (by omega), if_pos (by omega), wrapn (by omega), drop46 l j (by omega)]
    unfold node_kidKey.f
    rw [Option.bind_some, ih k (j + 1) (by omega) (by omega) (by omega)]
    simp only [List.map_cons, findB]
    split <;> rfl
theorem refkeys_item (key : ByteArray) (a : Bool) (l : List S44) (m : List S46) (hl : l.length ≤ 300) (n : Nat) : ∀ (k j : Nat) (ks : List ByteArray), n = l.length - j → n + ks.length + 2 + (l.length - j) < k → j ≤ l.length → ks.length = j →
    coppiceref06_Find.l0 k key ks (j : Int) a l m = some (findB (ks ++ (l.drop j).map (·.f0)) key 0) := by
  induction n with
  | zero =>
    intro k j ks hn hk hj hs
    obtain ⟨k, rfl⟩ : ∃ q, k = q + 2 := ⟨k - 2, by omega⟩
    simp only [coppiceref06_Find.l0]
    rw [if_neg (by omega), List.drop_of_length_le (by omega)]
    simp only [coppiceref06_Find.j2]
    have := ref_l2 key ks (by omega) ks.length k 0 (by omega) (by omega) (by omega)
    rw [List.drop_zero] at this
    exact this.trans (by simp)
  | succ n ih =>
    intro k j ks hn hk hj hs
    obtain ⟨k, rfl⟩ : ∃ q, k = q + 1 := ⟨k - 1, by omega⟩
    simp only [coppiceref06_Find.l0]
    rw [if_pos (by omega), if_pos (by omega), if_pos (by omega), wrapn (by omega), drop44 l j (by omega), ih k (j + 1) _ (by omega) (by rw [List.length_append]; simp only [List.length_cons, List.length_nil]; omega) (by omega) (by rw [List.length_append]; simp only [List.length_cons, List.length_nil]; omega)]
    simp
theorem refkeys_kid (key : ByteArray) (a : Bool) (l : List S44) (m : List S46) (hl : m.length ≤ 300) (n : Nat) : ∀ (k j : Nat) (ks : List ByteArray), n = m.length - j → n + ks.length + 2 + (m.length - j) < k → j ≤ m.length → ks.length = j →
    coppiceref06_Find.l1 k key ks (j : Int) a l m = some (findB (ks ++ (m.drop j).map (·.f0)) key 0) := by
  induction n with
  | zero =>
    intro k j ks hn hk hj hs
    obtain ⟨k, rfl⟩ : ∃ q, k = q + 2 := ⟨k - 2, by omega⟩
    simp only [coppiceref06_Find.l1]
    rw [if_neg (by omega), List.drop_of_length_le (by omega)]
    simp only [coppiceref06_Find.j2]
    have := ref_l2 key ks (by omega) ks.length k 0 (by omega) (by omega) (by omega)
    rw [List.drop_zero] at this
    exact this.trans (by simp)
  | succ n ih =>
    intro k j ks hn hk hj hs
    obtain ⟨k, rfl⟩ : ∃ q, k = q + 1 := ⟨k - 1, by omega⟩
    simp only [coppiceref06_Find.l1]
    rw [if_pos (by omega), if_pos (by omega), if_pos (by omega), wrapn (by omega), drop46 m j (by omega), ih k (j + 1) _ (by omega) (by rw [List.length_append]; simp only [List.length_cons, List.length_nil]; omega) (by omega) (by rw [List.length_append]; simp only [List.length_cons, List.length_nil]; omega)]
    simp
theorem find_ok (k : Nat) (a : Bool) (l : List S44) (m : List S46) (key : ByteArray) (hs : small l m) (hk : 1000 ≤ k) : ∃ r, node_Find.f k a l m key = some r ∧ coppiceref06_Find.f k a l m key = some r := by
  obtain ⟨h1, h2, h3, h4⟩ := hs
  cases a with
  | true =>
    refine ⟨findB (l.map (·.f0)) key 0, ?_, ?_⟩
    · unfold node_Find.f node_below_Item_node_itemKey.f
      have := below_item key l h1 l.length k 0 (by omega) (by omega) (by omega)
      rw [List.drop_zero] at this
      rw [if_pos rfl, show (0 : Int) = ((0 : Nat) : Int) from rfl, this, Option.bind_some]
    · unfold coppiceref06_Find.f
      rw [if_pos rfl]
      have := refkeys_item key true l m h1 l.length k 0 [] (by omega) (by simp only [List.length_nil]; omega) (by omega) rfl
      rw [List.drop_zero, List.nil_append] at this
      exact this
  | false =>
    refine ⟨findB (m.map (·.f0)) key 0, ?_, ?_⟩
    · unfold node_Find.f node_below_Kid_node_kidKey.f
      have := below_kid key m h2 m.length k 0 (by omega) (by omega) (by omega)
      rw [List.drop_zero] at this
      rw [if_neg Bool.false_ne_true, show (0 : Int) = ((0 : Nat) : Int) from rfl, this, Option.bind_some]
    · unfold coppiceref06_Find.f
      rw [if_neg Bool.false_ne_true]
      have := refkeys_kid key false l m h2 m.length k 0 [] (by omega) (by simp only [List.length_nil]; omega) (by omega) rfl
      rw [List.drop_zero, List.nil_append] at this
      exact this
end Go.Proofs.Ytdkbikaheagbfaa.NodeP
