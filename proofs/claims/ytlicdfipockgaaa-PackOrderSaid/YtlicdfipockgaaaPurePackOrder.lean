/- PackOrder: fixed numbers stand in the order of the numbers, short ones are as long as they need: for all uint64 a, b. -/
import Derived.Test.YtlicdfipockgaaaPAx4
import Derived.Test.YtlicdfipockgaaaBytes
namespace Go.Proofs.Ytlicdfipockgaaa.Pure
open Go.RowKit Go.Proofs.Ytlicdfipockgaaa.PA Go.Proofs.YtlicdfipockgaaaW.PrintWords Go.Proofs.YtlicdfipockgaaaW.PrintLast
open Go.Proofs.Ytlicdfipockgaaa.Plain

theorem awake_true : coppicelaw02_awake.f = some true := by decide +kernel
theorem u64_bounds (a : Int) (h : (Lit.int .u64 a).wf = true) : 0 ≤ a ∧ a < 18446744073709551616 := by
  simp [Lit.wf, IntKind.min, IntKind.max, IntKind.signed, IntKind.bits] at h; omega
def groups : Nat → Int → Int
  | 0, _ => 0
  | k + 1, x => if x > 0 then 1 + groups k (x / 128) else 0
theorem len_groups : ∀ (k : Nat) (a : Int), 0 ≤ a → ((shortNums k a).length : Int) = 1 + groups k (a / 128)
  | 0, a, _ => by simp [shortNums, groups]
  | k + 1, a, h => by
    unfold shortNums groups
    by_cases c : 127 < a
    · rw [if_pos c, if_pos (by omega), List.length_cons, Int.natCast_add, len_groups k _ (by omega)]
      omega
    · rw [if_neg c, if_neg (by omega)]; simp
theorem order_loop (a b : Int) (ha : 0 ≤ a ∧ a < 18446744073709551616) (hb : 0 ≤ b ∧ b < 18446744073709551616) :
    ∀ (k : Nat) (x n : Int), x < 128 ^ k → 1 ≤ n → n + k ≤ 100 → n + groups k x = (shortNums 9 a).length →
      coppicelaw02_PackOrder.l0 (k + 1) a b n x = some true := by
  have fin : ∀ (k : Nat) (x n : Int), x ≤ 0 → n = (shortNums 9 a).length → coppicelaw02_PackOrder.l0 (k + 1) a b n x = some true := by
    intro k x n hx hn
    have hFa : pack_Fixed.f a = some (strOfNums (fixedNums a)) := by unfold pack_Fixed.f; rw [if_pos ha]
    have hFb : pack_Fixed.f b = some (strOfNums (fixedNums b)) := by unfold pack_Fixed.f; rw [if_pos hb]
    have hSa : pack_Short.f a = some (strOfNums (shortNums 9 a)) := by unfold pack_Short.f; rw [if_pos ha]
    have hSb : pack_Short.f b = some (strOfNums (shortNums 9 b)) := by unfold pack_Short.f; rw [if_pos hb]
    rw [coppicelaw02_PackOrder.l0, if_neg (by omega), hFa, hFb, hSa, hSb]
    simp only [Option.bind_some]
    rw [fixed_less a b ha hb, beq_self_eq_true, if_pos rfl, beq_toList, beq_toList]
    have e1 : (decide (strOfNums (fixedNums a) = strOfNums (fixedNums b)) == (a == b)) = true := by
      by_cases c : a = b
      · subst c; simp
      · rw [decide_eq_false (fun h => c (fixed_inj a b ha hb h)), beq_eq_false_iff_ne.mpr c]; rfl
    have e2 : (decide (strOfNums (shortNums 9 a) = strOfNums (shortNums 9 b)) == (a == b)) = true := by
      by_cases c : a = b
      · subst c; simp
      · rw [decide_eq_false (fun h => c (short_inj a b ha hb h)), beq_eq_false_iff_ne.mpr c]; rfl
    rw [if_pos e1, if_pos e2, strOfNums_size, hn]
    simp
  intro k
  induction k with
  | zero => intro x n hx _ _ h; exact fin 0 x n (by simp at hx; omega) (by simpa [groups] using h)
  | succ k ih =>
    intro x n hx hn hk h
    unfold groups at h
    by_cases c : x > 0
    · rw [if_pos c] at h
      rw [coppicelaw02_PackOrder.l0, if_pos c]
      have hw : wrap64 (n + 1) = n + 1 := by unfold wrap64; omega
      rw [hw]
      exact ih (x / 128) (n + 1) (by rw [Int.pow_succ] at hx; omega) (by omega) (by omega) (by omega)
    · rw [if_neg c] at h
      exact fin (k + 1) x n (by omega) (by omega)
theorem PackOrder : coppicelaw02_PackOrder.Pure := by
  intro a b ha hb
  have ha := u64_bounds a ha
  have hb := u64_bounds b hb
  refine ⟨10, ?_⟩
  unfold coppicelaw02_PackOrder.f
  rw [awake_true]
  simp only [Option.bind_some, if_true]
  exact order_loop a b ha hb 9 (a / 128) 1 (by omega) (by omega) (by omega) (by rw [len_groups 9 a ha.1])
end Go.Proofs.Ytlicdfipockgaaa.Pure
