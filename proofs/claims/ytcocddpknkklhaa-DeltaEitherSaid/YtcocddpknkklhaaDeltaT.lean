import Derived.Test.YtcocddpknkklhaaPAx10
import Derived.Test.YtcocddpknkklhaaPAx11
import Derived.Test.YtcocddpknkklhaaPAx12
import Derived.Test.YtcocddpknkklhaaPAx8
import Derived.Test.YtcocddpknkklhaaPAx9
import Derived.Test.YtcocddpknkklhaaDeltaR
/-! What becomes of items: what the program's functions answer, plain. -/
set_option linter.unusedVariables false
set_option linter.unusedSimpArgs false
namespace Go.Proofs.Ytcocddpknkklhaa.DeltaP
open Go.RowKit Go.Proofs.Ytcocddpknkklhaa.PA Go.Proofs.YtcocddpknkklhaaW.PrintWords Go.Proofs.YtcocddpknkklhaaW.PrintLast Go.Proofs.YtcocddpknkklhaaW.PrintMore
open Go.Proofs.Ytcocddpknkklhaa.Plain Go.Proofs.Ytcocddpknkklhaa.MergeP
theorem wrapn {j : Nat} (h : j < 4611686018427387904) : wrap64 ((j : Int) + 1) = ((j + 1 : Nat) : Int) := by rw [wrap_in (by omega) (by omega)]; omega
theorem dropI (l : List It) (j : Nat) (hj : j < l.length) : l.drop j = rd_T59 l (j : Int) :: l.drop (j + 1) := by
  rw [List.drop_eq_getElem_cons hj]
  unfold rd_T59
  rw [Int.toNat_natCast, List.getD_eq_getElem?_getD, List.getElem?_eq_getElem hj]; rfl
theorem dropC (l : List Ch) (j : Nat) (hj : j < l.length) : l.drop j = rd_T61 l (j : Int) :: l.drop (j + 1) := by
  rw [List.drop_eq_getElem_cons hj]
  unfold rd_T61
  rw [Int.toNat_natCast, List.getD_eq_getElem?_getD, List.getElem?_eq_getElem hj]; rfl
theorem adjI (l : List It) : (delta_rises.sortB_item l && delta_rises.neB_item l) = adj ik l :=
  adj_of ik delta_rises.sortB_item delta_rises.neB_item rfl (fun _ => rfl) rfl (fun _ => rfl) (fun _ _ _ => rfl) (fun _ _ _ => rfl) l
theorem adjC (l : List Ch) : (delta_rises.sortB_change l && delta_rises.neB_change l) = adj ck l :=
  adj_of ck delta_rises.sortB_change delta_rises.neB_change rfl (fun _ => rfl) rfl (fun _ => rfl) (fun _ _ _ => rfl) (fun _ _ _ => rfl) l
theorem emp (a : ByteArray) : (a.toList == ([] : List UInt8)) = decide (a = E) := by
  have : ([] : List UInt8) = E.toList := by rw [ByteArray.toList_eq]
  rw [this, beq_dec]
theorem right_eq (x : Ch) : delta_Check.rightB x = rightC x := by
  unfold delta_Check.rightB rightC
  rw [emp, emp]
  have : (x.f3.toList != x.f4.toList) = decide (x.f3 ≠ x.f4) := by
    show (!(x.f3.toList == x.f4.toList)) = _
    rw [beq_dec, decide_not]
  rw [this]
/-- Changes are right: they rise, and each is. -/
def rightL (c : List Ch) : Bool := adj ck c && c.all rightC
theorem check_eq (c : List Ch) : delta_Check.all c = rightL c := by
  unfold delta_Check.all rightL
  rw [adjC]
  congr 1
  rw [List.not_any_eq_all_not]
  congr 1
  funext x
  rw [Bool.not_not, right_eq]
theorem rightL_rises {c : List Ch} (h : rightL c = true) : Rises ck c := by
  unfold rightL at h
  rw [Bool.and_eq_true] at h
  exact (adj_iff c).1 h.1
theorem rightL_mk {c : List Ch} (h : Rises ck c) (h2 : ∀ x ∈ c, rightC x = true) : rightL c = true := by
  unfold rightL
  rw [(adj_iff c).2 h, List.all_eq_true.2 h2]
  rfl
theorem diffF_eq : delta_Diff.diffF = diffF := by funext x y; cases x <;> cases y <;> rfl
theorem diff_f {a b : List It} (ha : a.length ≤ 1000000000) (hb : b.length ≤ 1000000000) : delta_Diff.f a b = some (if (adj ik a && adj ik b) = true then (diffL a b, 0) else ([], 21)) := by
  unfold delta_Diff.f
  rw [if_pos ⟨ha, hb⟩, adjI, adjI, diffF_eq]
  rfl
theorem applyF_eq : delta_Apply.applyF = applyF := by funext x y; cases x <;> cases y <;> rfl
theorem fitA_eq : delta_Apply.fitA = fitA := by funext x y; cases x <;> cases y <;> rfl
theorem apply_f {a : List It} {c : List Ch} (ha : a.length ≤ 1000000000) (hc : c.length ≤ 1000000000) : delta_Apply.f a c = some (if (adj ik a && rightL c) = true then (if fitsA a c = true then (applyL a c, 0) else ([], 180)) else ([], 21)) := by
  unfold delta_Apply.f
  rw [if_pos ⟨ha, hc⟩, adjI, check_eq, applyF_eq, fitA_eq]
  rfl
theorem diffL_len (a b : List It) : (diffL a b).length ≤ a.length + b.length := Nat.le_trans made_len (pairs_len _ a b (Nat.le_refl _))
theorem own_f {l : List It} (h : l.length ≤ 1000) : coppicelaw18_own.f l = some l := by
  unfold coppicelaw18_own.f
  rw [Option.bind_some, if_pos (by simp; omega), List.nil_append]
theorem greatI_l (l : List It) (hl : l.length ≤ 300) (n : Nat) : ∀ k j : Nat, n = l.length - j → n < k → j ≤ l.length → ∃ b, coppiceref15_Great.l0 k l (j : Int) = some b := by
  induction n with
  | zero =>
    intro k j hn hk hj
    obtain ⟨k, rfl⟩ : ∃ q, k = q + 1 := ⟨k - 1, by omega⟩
    refine ⟨false, ?_⟩
    simp only [coppiceref15_Great.l0]; rw [if_neg (by omega)]
  | succ n ih =>
    intro k j hn hk hj
    obtain ⟨k, rfl⟩ : ∃ q, k = q + 1 := ⟨k - 1, by omega⟩
    simp only [coppiceref15_Great.l0]
    rw [if_pos (by omega), if_pos (by omega), wrapn (by omega)]
    by_cases h : (((rd_T59 l (j : Int)).f0).size : Int) > 400
    · rw [if_pos h]; exact ⟨true, rfl⟩
    · rw [if_neg h]
      by_cases h2 : (((rd_T59 l (j : Int)).f1).size : Int) > 400
      · rw [if_pos h2]; exact ⟨true, rfl⟩
      · rw [if_neg h2]; exact ih k (j + 1) (by omega) (by omega) (by omega)
theorem greatI_f (l : List It) (k : Nat) (hk : 301 ≤ k) : ∃ b, coppiceref15_Great.f k l = some b ∧ (b = false → l.length ≤ 300) := by
  unfold coppiceref15_Great.f
  by_cases h : (l.length : Int) > 300
  · rw [if_pos h]; exact ⟨true, rfl, fun h => by cases h⟩
  · rw [if_neg h]
    obtain ⟨b, hb⟩ := greatI_l l (by omega) l.length k 0 (by omega) (by omega) (by omega)
    exact ⟨b, hb, fun _ => by omega⟩
theorem sameI_l (l : List It) (hl : l.length ≤ 1000000) (n : Nat) : ∀ k j : Nat, n = l.length - j → n < k → j ≤ l.length → coppiceref08_Same.l0 k l l (j : Int) = some true := by
  induction n with
  | zero =>
    intro k j hn hk hj
    obtain ⟨k, rfl⟩ : ∃ q, k = q + 1 := ⟨k - 1, by omega⟩
    simp only [coppiceref08_Same.l0]; rw [if_neg (by omega)]
  | succ n ih =>
    intro k j hn hk hj
    obtain ⟨k, rfl⟩ : ∃ q, k = q + 1 := ⟨k - 1, by omega⟩
    simp only [coppiceref08_Same.l0]
    rw [if_pos (by omega), if_pos (by omega), if_pos (by omega), if_neg (by simp), wrapn (by omega)]
    exact ih k (j + 1) (by omega) (by omega) (by omega)
theorem sameI_f (l : List It) (hl : l.length ≤ 1000000) (k : Nat) (hk : l.length < k) : coppiceref08_Same.f k l l = some true := by
  unfold coppiceref08_Same.f
  rw [if_pos rfl]
  exact sameI_l l hl l.length k 0 (by omega) hk (by omega)
theorem awake_f : coppicelaw18_awake.f = some true := rfl
end Go.Proofs.Ytcocddpknkklhaa.DeltaP
