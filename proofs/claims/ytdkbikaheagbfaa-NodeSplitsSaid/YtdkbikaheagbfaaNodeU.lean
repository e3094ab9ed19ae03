import Derived.Test.YtdkbikaheagbfaaPTx12
import Derived.Test.YtdkbikaheagbfaaPTx13
import Derived.Test.YtdkbikaheagbfaaNodeT
/-! Nodes in parts: the program's Split. -/
set_option linter.unusedVariables false
set_option linter.unusedSectionVars false
set_option linter.unusedSimpArgs false
namespace Go.Proofs.Ytdkbikaheagbfaa.NodeP
open Go.RowKit Go.Proofs.Ytdkbikaheagbfaa.PT Go.Proofs.YtdkbikaheagbfaaW.PrintWords Go.Proofs.YtdkbikaheagbfaaW.PrintLast Go.Proofs.YtdkbikaheagbfaaW.PrintMore
open Go.Proofs.Ytdkbikaheagbfaa.Plain
section
variable (a : Bool) (l : List S44) (m : List S46) (hs : small l m) (h : rightB a l m = true)
/-- A node's parts. -/
def splitL : List S25 := if rightB a l m = true then (parts (fitsB a l m) (l.length + m.length - 1) 0 1).map (fun p => seg a l m p.1 p.2) else []
include hs h
theorem part_ok (i j : Nat) (h1 : i ≤ j) (h2 : j ≤ l.length + m.length) : node_part.f a l m (i : Int) (j : Int) = some (a, (l.take j).drop i, (m.take j).drop i) := by
  have he := right_empty a l m h
  obtain ⟨s1, s2, s3, s4⟩ := hs
  unfold node_part.f
  cases a with
  | true =>
    obtain ⟨rfl, hl⟩ := he.1 rfl
    simp only [List.length_nil] at h2
    rw [if_pos rfl, if_pos (by omega), if_pos (by omega), if_pos (by omega)]
    simp only [Int.toNat_natCast, slices_Clone_Item.f]
    rw [if_pos (by rw [List.length_drop, List.length_take]; omega), Option.bind_some]
    simp only [List.take_nil, List.drop_nil]
  | false =>
    obtain ⟨rfl, hl⟩ := he.2 rfl
    simp only [List.length_nil] at h2
    rw [if_neg (by decide), if_pos (by omega), if_pos (by omega), if_pos (by omega)]
    simp only [Int.toNat_natCast, slices_Clone_Kid.f]
    rw [if_pos (by rw [List.length_drop, List.length_take]; omega), Option.bind_some]
    simp only [List.take_nil, List.drop_nil]
theorem size_seg (i j : Nat) (h1 : i < j) (h2 : j ≤ l.length + m.length) : node_Size.f a ((l.take j).drop i) ((m.take j).drop i) = some (sz a l m i j : Int) := by
  rw [nsize_ok a _ _ (small_seg l m hs i j)]
  unfold sizeR
  rw [if_pos (right_seg a l m h i j h1 h2)]
  rfl
theorem split_l0 : ∀ (n k : Nat) (out : List S25) (i j : Nat), i < j → j + n = l.length + m.length → n + 3 ≤ k → out.length + n ≤ 20000 →
    node_Split.l0 k out (i : Int) ((l.length + m.length : Nat) : Int) (j : Int) a l m = some (out ++ (parts (fitsB a l m) n i j).map (fun p => seg a l m p.1 p.2)) := by
  have hs' := hs
  obtain ⟨s1, s2, s3, s4⟩ := hs'
  intro n
  induction n with
  | zero =>
    intro k out i j h1 h2 hk ho
    obtain ⟨k, rfl⟩ : ∃ q, k = q + 2 := ⟨k - 2, by omega⟩
    rw [node_Split.l0, if_pos (by omega), if_pos (by omega), part_ok a l m hs h i j (by omega) (by omega), Option.bind_some, if_pos (by omega), wrapn (by omega), node_Split.l0, if_neg (by omega)]
    rfl
  | succ n ih =>
    intro k out i j h1 h2 hk ho
    obtain ⟨k, rfl⟩ : ∃ q, k = q + 1 := ⟨k - 1, by omega⟩
    rw [node_Split.l0, if_pos (by omega), if_neg (by omega), wrapn (by omega), part_ok a l m hs h i (j + 1) (by omega) (by omega), Option.bind_some]
    simp only
    rw [size_seg a l m hs h i (j + 1) (by omega) (by omega), Option.bind_some]
    simp only [parts]
    by_cases c : sz a l m i (j + 1) ≤ 1007
    · rw [if_neg (by omega), if_pos (by unfold fitsB; exact decide_eq_true c), ih k out i (j + 1) (by omega) (by omega) (by omega) (by omega)]
    · rw [if_pos (by omega), if_neg (by unfold fitsB; rw [decide_eq_true_eq]; exact c), part_ok a l m hs h i j (by omega) (by omega), Option.bind_some, if_pos (by omega), ih k _ j (j + 1) (by omega) (by omega) (by omega) (by rw [List.length_append, List.length_singleton]; omega)]
      rw [List.map_cons, List.append_assoc]; rfl
omit h
theorem nsplit_ok (k : Nat) (hk : 10100 ≤ k) : node_Split.f k a l m = some (splitL a l m) := by
  have hs' := hs
  obtain ⟨s1, s2, s3, s4⟩ := hs'
  unfold node_Split.f splitL
  rw [nright_ok a l m (by omega) (by omega), Option.bind_some]
  by_cases c : rightB a l m = true
  · rw [if_pos c, if_pos c, wrap_in (by omega) (by omega)]
    have he := right_empty a l m c
    have hp : 1 ≤ l.length + m.length := by
      cases a with
      | true => have := (he.1 rfl).2; omega
      | false => have := (he.2 rfl).2; omega
    have := split_l0 a l m hs c (l.length + m.length - 1) k [] 0 1 (by omega) (by omega) (by omega) (by simp only [List.length_nil]; omega)
    rw [show ((l.length : Int) + (m.length : Int)) = ((l.length + m.length : Nat) : Int) by omega]
    exact this
  · rw [if_neg c, if_neg c]
end
end Go.Proofs.Ytdkbikaheagbfaa.NodeP
