import Derived.Test.YtppkdmocbhodpaaPAx5
import Derived.Test.YtppkdmocbhodpaaTarget
/-! What is a right inode, and its bytes: inode's word. -/
namespace Go.Proofs.Ytppkdmocbhodpaa.InodeP
open Go.RowKit Go.Proofs.Ytppkdmocbhodpaa.PA Go.Proofs.YtppkdmocbhodpaaW.PrintWords Go.Proofs.YtppkdmocbhodpaaW.PrintLast Go.Proofs.YtppkdmocbhodpaaW.PrintMore
open Go.Proofs.Ytppkdmocbhodpaa.Plain Go.Proofs.Ytppkdmocbhodpaa.TargetP

def E : ByteArray := ⟨#[]⟩
def inM (a1 a3 : Int) : Bool := decide (1 ≤ a3 ∧ a3 ≤ 1099511627776 ∧ 0 ≤ a1 ∧ a1 ≤ 4095)
def rest (a0 a3 a4 : Int) (T : ByteArray) : Bool :=
  if a0 = 1 then decide (0 ≤ a4) && (decide (a4 ≤ 4611686018427387904) && decide (T.size = 0))
  else if a0 = 2 then decide (a3 = 1) && (decide (a4 = 0) && decide (T.size = 0))
  else if a0 = 3 then decide (a4 = 0) && tgt T else false
def isRight (a0 a1 a3 a4 : Int) (T : ByteArray) : Bool := inM a1 a3 && rest a0 a3 a4 T
theorem beq_nil (T : ByteArray) : (T.toList == (⟨#[]⟩ : ByteArray).toList) = decide (T.size = 0) := by
  by_cases c : T.size = 0
  · rw [decide_eq_true c, (nil_size T).2 c]; decide +kernel
  · rw [decide_eq_false c]
    rw [beq_eq_false_iff_ne]
    intro h
    exact c ((nil_size T).1 (by rw [h, ByteArray.toList_eq]))
theorem beq_nil' (T : ByteArray) : (T.toList == ([] : List UInt8)) = decide (T.size = 0) := by
  rw [← beq_nil]
  congr 1
  rw [ByteArray.toList_eq]
section
variable (a0 a1 a2 a3 a4 : Int) (T : ByteArray)
theorem check_M (k : Nat) : inode_Check.f k a0 a1 a2 a3 a4 T = inode_Check.j0 k (inM a1 a3) a0 a1 a2 a3 a4 T a0 0 0 a3 a4 T a0 0 0 1 0 (⟨#[]⟩ : ByteArray) := by
  unfold inode_Check.f inM
  by_cases h1 : a3 ≥ 1
  · rw [if_pos h1]
    by_cases h2 : a3 ≤ 1099511627776
    · rw [if_pos h2]
      by_cases h3 : a1 ≥ 0
      · rw [if_pos h3, show decide (1 ≤ a3 ∧ a3 ≤ 1099511627776 ∧ 0 ≤ a1 ∧ a1 ≤ 4095) = decide (a1 ≤ 4095) from decide_eq_decide.2 (by omega)]
      · rw [if_neg h3, decide_eq_false (by omega)]
    · rw [if_neg h2, decide_eq_false (by omega)]
  · rw [if_neg h1, decide_eq_false (by omega)]
def code (b : Bool) : Int := if b = true then 0 else 1
theorem beqI (x y : Int) : (x == y) = decide (x = y) := by
  by_cases c : x = y
  · subst c; simp
  · rw [decide_eq_false c]; exact beq_eq_false_iff_ne.2 c
theorem check_j (k : Nat) (b : Bool) : inode_Check.j0 (k + 2) b a0 a1 a2 a3 a4 T a0 0 0 a3 a4 T a0 0 0 1 0 (⟨#[]⟩ : ByteArray) = some (code (b && rest a0 a3 a4 T)) := by
  unfold rest code
  rw [inode_Check.j0, target_ok, Option.bind_some, inode_Check.j1, inode_Check.j1]
  simp only [beq_self_eq_true, Bool.true_and, beq_nil, beqI]
  by_cases k3 : a0 = 3
  · subst k3
    rw [if_pos rfl, if_neg (by decide : ¬ ((3 : Int) = 1)), if_neg (by decide : ¬ ((3 : Int) = 1)), if_neg (by decide : ¬ ((3 : Int) = 1)), if_neg (by decide : ¬ ((3 : Int) = 2)), if_pos rfl]
    cases b
    · rfl
    · generalize tgt T = t
      by_cases c : a4 = 0
      · cases t <;> simp [c]
      · cases t <;> simp [c]
  rw [if_neg k3]
  by_cases k1 : a0 = 1
  · subst k1
    rw [if_pos rfl, if_pos rfl, inode_Check.j1, if_pos rfl]
    simp only [beq_self_eq_true, Bool.true_and, beq_nil]
    cases b
    · rfl
    · by_cases c1 : 0 ≤ a4
      · by_cases c2 : a4 ≤ 4611686018427387904
        · by_cases c3 : T.size = 0 <;> simp [c1, c2, c3]
        · simp [c1, c2]
      · simp [c1]
  rw [if_neg k1, if_neg k1]
  by_cases k2 : a0 = 2
  · subst k2
    rw [if_pos rfl, if_pos rfl]
    cases b
    · rfl
    · by_cases c1 : a3 = 1
      · by_cases c2 : a4 = 0
        · by_cases c3 : T.size = 0 <;> simp [c1, c2, c3]
        · simp [c1, c2]
      · simp [c1]
  rw [if_neg k2, if_neg k2, if_neg k3, Bool.and_false]
  rfl
theorem check_ok (k : Nat) (hk : 2 ≤ k) : inode_Check.f k a0 a1 a2 a3 a4 T = some (code (isRight a0 a1 a3 a4 T)) := by
  obtain ⟨k, rfl⟩ : ∃ q, k = q + 2 := ⟨k - 2, by omega⟩
  rw [check_M, check_j]
  rfl
def inR (a0 a1 a3 a4 : Int) : Prop := 1 ≤ a0 ∧ a0 ≤ 3 ∧ 0 ≤ a1 ∧ a1 ≤ 4095 ∧ 1 ≤ a3 ∧ a3 ≤ 1099511627776 ∧ 0 ≤ a4 ∧ a4 ≤ 4611686018427387904
theorem right_no (h : ¬ inR a0 a1 a3 a4) : isRight a0 a1 a3 a4 T = false := by
  unfold isRight inM rest
  rw [Bool.eq_false_iff]
  intro g
  rw [Bool.and_eq_true, decide_eq_true_eq] at g
  obtain ⟨g1, g2⟩ := g
  apply h
  unfold inR
  by_cases k1 : a0 = 1
  · rw [if_pos k1] at g2; simp only [Bool.and_eq_true, decide_eq_true_eq] at g2; omega
  rw [if_neg k1] at g2
  by_cases k2 : a0 = 2
  · rw [if_pos k2] at g2; simp only [Bool.and_eq_true, decide_eq_true_eq] at g2; omega
  rw [if_neg k2] at g2
  by_cases k3 : a0 = 3
  · rw [if_pos k3] at g2; simp only [Bool.and_eq_true, decide_eq_true_eq] at g2; omega
  rw [if_neg k3] at g2
  exact absurd g2 (by decide)
/-- What isRight says. -/
theorem right_facts (h : isRight a0 a1 a3 a4 T = true) : 1 ≤ a0 ∧ a0 ≤ 3 ∧ 0 ≤ a1 ∧ a1 ≤ 4095 ∧ 1 ≤ a3 ∧ a3 ≤ 1099511627776 ∧ 0 ≤ a4 ∧ a4 ≤ 4611686018427387904 ∧ T.size ≤ 100 := by
  by_cases c : inR a0 a1 a3 a4
  · obtain ⟨c1, c2, c3, c4, c5, c6, c7, c8⟩ := c
    refine ⟨c1, c2, c3, c4, c5, c6, c7, c8, ?_⟩
    unfold isRight rest tgt at h
    rw [Bool.and_eq_true] at h
    replace h := h.2
    by_cases k1 : a0 = 1
    · rw [if_pos k1] at h; simp only [Bool.and_eq_true, decide_eq_true_eq] at h; omega
    rw [if_neg k1] at h
    by_cases k2 : a0 = 2
    · rw [if_pos k2] at h; simp only [Bool.and_eq_true, decide_eq_true_eq] at h; omega
    rw [if_neg k2] at h
    have k3 : a0 = 3 := by omega
    rw [if_pos k3] at h; simp only [Bool.and_eq_true, decide_eq_true_eq] at h; omega
  · rw [right_no a0 a1 a3 a4 T c] at h; exact absurd h (by decide)
def tm (a2 : Int) : Int := IntKind.u64.wrap a2
theorem tm_range : 0 ≤ tm a2 ∧ tm a2 < 18446744073709551616 := by
  have : tm a2 = a2 % 18446744073709551616 := wrap_u64 a2
  omega
theorem wrap_ok (x : Int) (h0 : 0 ≤ x) (h1 : x < 18446744073709551616) : IntKind.u64.wrap x = x := by rw [wrap_u64]; omega
def tail : ByteArray := if a0 = 1 then strOfNums (shortNums 9 a4) else if a0 = 3 then strOfNums (shortNums 9 T.size) ++ T else E
/-- A right inode's bytes. -/
def bytes : ByteArray := strOfNums [a0 % 256] ++ strOfNums (shortNums 9 a1) ++ strOfNums (fixedNums (tm a2)) ++ strOfNums (shortNums 9 a3) ++ tail a0 a4 T
def enc : ByteArray × Int := if isRight a0 a1 a3 a4 T = true then (bytes a0 a1 a2 a3 a4 T, 0) else (E, 1)
theorem app_E (x : ByteArray) : x ++ E = x := ByteArray.append_empty
theorem encode_ok (k : Nat) (hk : 2 ≤ k) : inode_Encode.f k a0 a1 a2 a3 a4 T = some (enc a0 a1 a2 a3 a4 T) := by
  unfold inode_Encode.f
  rw [check_ok a0 a1 a2 a3 a4 T k hk, Option.bind_some]
  unfold enc code
  cases hR : isRight a0 a1 a3 a4 T with
  | false => rw [if_neg (by decide), if_neg (by decide), if_neg (by decide)]; rfl
  | true =>
    obtain ⟨f1, f2, f3, f4, f5, f6, f7, f8, f9⟩ := right_facts a0 a1 a3 a4 T hR
    have r := tm_range a2
    have z1 := strOfNums_size (shortNums 9 a1); have l1 := shortNums_len 9 a1
    have z2 := strOfNums_size (fixedNums (tm a2)); have l2 : (fixedNums (tm a2)).length = 8 := rfl
    have z3 := strOfNums_size (shortNums 9 a3); have l3 := shortNums_len 9 a3
    have z4 := strOfNums_size (shortNums 9 a4); have l4 := shortNums_len 9 a4
    have z5 := strOfNums_size (shortNums 9 T.size); have l5 := shortNums_len 9 T.size
    have z0 : (strOfNums [a0 % 256]).size = 1 := by rw [strOfNums_size]; rfl
    have hF : pack_Fixed.f (IntKind.u64.wrap a2) = some (strOfNums (fixedNums (tm a2))) := by unfold pack_Fixed.f; exact if_pos r
    have hS1 : pack_Short.f (IntKind.u64.wrap a1) = some (strOfNums (shortNums 9 a1)) := by unfold pack_Short.f; rw [wrap_ok a1 f3 (by omega)]; exact if_pos ⟨f3, by omega⟩
    have hS3 : pack_Short.f (IntKind.u64.wrap a3) = some (strOfNums (shortNums 9 a3)) := by unfold pack_Short.f; rw [wrap_ok a3 (by omega) (by omega)]; exact if_pos ⟨by omega, by omega⟩
    have hS4 : pack_Short.f (IntKind.u64.wrap a4) = some (strOfNums (shortNums 9 a4)) := by unfold pack_Short.f; rw [wrap_ok a4 (by omega) (by omega)]; exact if_pos ⟨by omega, by omega⟩
    have hT : pack_Text.f T = some (strOfNums (shortNums 9 T.size) ++ T) := by unfold pack_Text.f; exact if_pos (by omega)
    have zt : (strOfNums (shortNums 9 T.size) ++ T).size = (shortNums 9 T.size).length + T.size := by rw [ByteArray.size_append, z5]
    rw [if_pos rfl, if_pos rfl, if_pos rfl, Option.bind_some, hS1, Option.bind_some, if_pos (by omega), hF, Option.bind_some, if_pos (by omega), hS3, Option.bind_some, if_pos (by omega)]
    unfold bytes tail
    by_cases k1 : a0 = 1
    · rw [if_pos k1, if_pos k1, hS4, Option.bind_some, if_pos (by omega)]
    rw [if_neg k1, if_neg k1]
    by_cases k3 : a0 = 3
    · rw [if_pos k3, if_pos k3, hT, Option.bind_some, if_pos (by omega)]
    rw [if_neg k3, if_neg k3, app_E]
end
end Go.Proofs.Ytppkdmocbhodpaa.InodeP
