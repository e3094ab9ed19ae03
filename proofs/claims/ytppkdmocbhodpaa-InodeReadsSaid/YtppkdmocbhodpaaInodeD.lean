import Derived.Test.YtppkdmocbhodpaaPAx2
import Derived.Test.YtppkdmocbhodpaaBytes
import Derived.Lib.IndexAny
import Derived.Test.YtppkdmocbhodpaaPAx12
import Derived.Test.YtppkdmocbhodpaaPAx5
import Derived.Test.YtppkdmocbhodpaaPAx13
import Derived.Test.YtppkdmocbhodpaaPAx11
import Derived.Test.YtppkdmocbhodpaaPAx19
import Derived.Test.YtppkdmocbhodpaaSim
/-! What is a symlink's target: path's word. -/
namespace Go.Proofs.Ytppkdmocbhodpaa.TargetP
open Go.RowKit Go.Proofs.Ytppkdmocbhodpaa.PA Go.Proofs.YtppkdmocbhodpaaW.PrintWords Go.Proofs.YtppkdmocbhodpaaW.PrintLast Go.Proofs.YtppkdmocbhodpaaW.PrintMore
open Go.Proofs.Ytppkdmocbhodpaa.Plain

def hasZero (T : ByteArray) : Bool := T.data.toList.contains 0
def tgt (T : ByteArray) : Bool := decide (1 ≤ T.size) && (decide (T.size ≤ 100) && !hasZero T)
theorem len_size (T : ByteArray) : T.data.toList.length = T.size := Array.length_toList
theorem nil_size (T : ByteArray) : T.toList = ([] : List UInt8) ↔ T.size = 0 := by
  rw [ByteArray.toList_eq, ← len_size]
  exact List.length_eq_zero_iff.symm
theorem contains_zero (T : ByteArray) : strings_Contains.f T (⟨#[0]⟩ : ByteArray) = some (hasZero T) := by
  unfold strings_Contains.f
  rw [if_pos (show (⟨#[0]⟩ : ByteArray).size = 1 from rfl)]
  congr 1
  unfold hasZero
  rw [Go.Lib.contains_iff_indexByte]
  rfl
theorem target_ok (T : ByteArray) : path_Target.f T = some (tgt T) := by
  unfold path_Target.f tgt
  by_cases c0 : T.size = 0
  · rw [if_pos ((nil_size T).2 c0), decide_eq_false (by omega)]; rfl
  rw [if_neg (fun h => c0 ((nil_size T).1 h)), decide_eq_true (by omega : 1 ≤ T.size), Bool.true_and]
  by_cases c1 : T.size ≤ 100
  · rw [if_pos (by omega), contains_zero, decide_eq_true c1]; rfl
  · rw [if_neg (by omega), decide_eq_false c1]; rfl
theorem bt_zero (T : ByteArray) (i : Nat) (h : i < T.size) : bt T (i : Int) = 0 ↔ T.data.toList[i]'(by rw [len_size]; exact h) = 0 := by
  rw [bt_nat T i h]
  constructor
  · intro e
    have e2 : T[i].toNat = 0 := by omega
    have : T[i] = 0 := UInt8.toNat_inj.1 (by rw [e2]; rfl)
    rw [Array.getElem_toList]; exact this
  · intro e
    have : T[i] = 0 := by rw [Array.getElem_toList] at e; exact e
    rw [this]; rfl
theorem zero_at (T : ByteArray) (i : Nat) (h : i < T.size) (e : bt T (i : Int) = 0) : hasZero T = true := by
  have := (bt_zero T i h).1 e
  unfold hasZero
  rw [List.contains_iff_mem, ← this]
  exact List.getElem_mem ..
theorem zero_none (T : ByteArray) (h : ∀ i : Nat, i < T.size → bt T (i : Int) ≠ 0) : hasZero T = false := by
  unfold hasZero
  cases hc : T.data.toList.contains 0 with
  | false => rfl
  | true =>
    rw [List.contains_iff_mem] at hc
    obtain ⟨i, hi, e⟩ := List.getElem_of_mem hc
    have hi' : i < T.size := by rw [← len_size]; exact hi
    exact absurd ((bt_zero T i hi').2 e) (h i hi')
end Go.Proofs.Ytppkdmocbhodpaa.TargetP
/-! What the document calls a target. -/
namespace Go.Proofs.Ytppkdmocbhodpaa.TargetP
open Go.RowKit Go.Proofs.Ytppkdmocbhodpaa.PA Go.Proofs.YtppkdmocbhodpaaW.PrintWords Go.Proofs.YtppkdmocbhodpaaW.PrintLast Go.Proofs.YtppkdmocbhodpaaW.PrintMore
open Go.Proofs.Ytppkdmocbhodpaa.Plain
theorem rtarget_loop (T : ByteArray) (hT : T.size ≤ 4611686018427387904) : ∀ (m k i : Nat), T.size = i + m → m < k → (∀ j : Nat, j < i → bt T (j : Int) ≠ 0) → coppiceref12_Target.l0 k T (i : Int) = some (tgt T)
  | 0, k, i, hz, hk, hb => by
    obtain ⟨k, rfl⟩ : ∃ q, k = q + 1 := ⟨k - 1, by omega⟩
    have hn : hasZero T = false := zero_none T (fun j hj => hb j (by omega))
    rw [coppiceref12_Target.l0, if_neg (by omega)]
    unfold tgt
    rw [hn]
    by_cases c0 : 1 ≤ T.size
    · rw [if_pos (by omega), decide_eq_true c0]
      congr 1
      by_cases c1 : T.size ≤ 100
      · rw [decide_eq_true c1, decide_eq_true (by omega)]; rfl
      · rw [decide_eq_false c1, decide_eq_false (by omega)]; rfl
    · rw [if_neg (by omega), decide_eq_false c0]; rfl
  | m + 1, k, i, hz, hk, hb => by
    obtain ⟨k, rfl⟩ : ∃ q, k = q + 1 := ⟨k - 1, by omega⟩
    rw [coppiceref12_Target.l0, if_pos (by omega), if_pos (by omega)]
    by_cases c : bt T (i : Int) = 0
    · rw [if_pos c]
      unfold tgt
      rw [zero_at T i (by omega) c]
      simp
    · rw [if_neg c]
      have e : wrap64 ((i : Int) + 1) = ((i + 1 : Nat) : Int) := by unfold wrap64; omega
      rw [e]
      refine rtarget_loop T hT m k (i + 1) (by omega) (by omega) ?_
      intro j hj
      by_cases cj : j = i
      · subst cj; exact c
      · exact hb j (by omega)
theorem rtarget_ok (T : ByteArray) (hT : T.size ≤ 4611686018427387904) (k : Nat) (hk : T.size < k) : coppiceref12_Target.f k T = some (tgt T) := by
  unfold coppiceref12_Target.f
  exact rtarget_loop T hT T.size k 0 (by omega) hk (by intro j hj; omega)
end Go.Proofs.Ytppkdmocbhodpaa.TargetP
/-! What is a right inode, and its bytes: inode's word. -/
namespace Go.Proofs.Ytppkdmocbhodpaa.InodeP
open Go.RowKit Go.Proofs.Ytppkdmocbhodpaa.PA Go.Proofs.YtppkdmocbhodpaaW.PrintWords Go.Proofs.YtppkdmocbhodpaaW.PrintLast Go.Proofs.YtppkdmocbhodpaaW.PrintMore
open Go.Proofs.Ytppkdmocbhodpaa.Plain Go.Proofs.Ytppkdmocbhodpaa.TargetP

def E : ByteArray := ⟨#[]⟩
def inM (a1 a3 : Int) : Bool := decide (1 ≤ a3 ∧ a3 ≤ 1099511627776 ∧ 0 ≤ a1 ∧ a1 ≤ 4095)
def rest (a0 a3 a4 : Int) (T : ByteArray) : Bool :=
  if a0 = 1 then decide (0 ≤ a4) && (decide (a4 ≤ 4611686018427387904) && decide (T.size = 0))
  else if a0 = 2 then decide (a3 = 1) && (decide (a4 = 0) && decide (T.size = 0))
  else if a0 = 3 then decide (a4 = 0) && tgt T else false
def isRight (a0 a1 a3 a4 : Int) (T : ByteArray) : Bool := inM a1 a3 && rest a0 a3 a4 T
theorem beq_nil (T : ByteArray) : (T.toList == (⟨#[]⟩ : ByteArray).toList) = decide (T.size = 0) := by
  by_cases c : T.size = 0
  · rw [decide_eq_true c, (nil_size T).2 c]; decide +kernel
  · rw [decide_eq_false c]
    rw [beq_eq_false_iff_ne]
    intro h
    exact c ((nil_size T).1 (by rw [h, ByteArray.toList_eq]))
theorem beq_nil' (T : ByteArray) : (T.toList == ([] : List UInt8)) = decide (T.size = 0) := by
  rw [← beq_nil]
  congr 1
  rw [ByteArray.toList_eq]
section
variable (a0 a1 a2 a3 a4 : Int) (T : ByteArray)
theorem check_M (k : Nat) : inode_Check.f k a0 a1 a2 a3 a4 T = inode_Check.j0 k (inM a1 a3) a0 a1 a2 a3 a4 T a0 0 0 a3 a4 T a0 0 0 1 0 (⟨#[]⟩ : ByteArray) := by
  unfold inode_Check.f inM
  by_cases h1 : a3 ≥ 1
  · rw [if_pos h1]
    by_cases h2 : a3 ≤ 1099511627776
    · rw [if_pos h2]
      by_cases h3 : a1 ≥ 0
      · rw [if_pos h3, show decide (1 ≤ a3 ∧ a3 ≤ 1099511627776 ∧ 0 ≤ a1 ∧ a1 ≤ 4095) = decide (a1 ≤ 4095) from decide_eq_decide.2 (by omega)]
      · rw [if_neg h3, decide_eq_false (by omega)]
    · rw [if_neg h2, decide_eq_false (by omega)]
  · rw [if_neg h1, decide_eq_false (by omega)]
def code (b : Bool) : Int := if b = true then 0 else 1
theorem beqI (x y : Int) : (x == y) = decide (x = y) := by
  by_cases c : x = y
  · subst c; simp
  · rw [decide_eq_false c]; exact beq_eq_false_iff_ne.2 c
theorem check_j (k : Nat) (b : Bool) : inode_Check.j0 (k + 2) b a0 a1 a2 a3 a4 T a0 0 0 a3 a4 T a0 0 0 1 0 (⟨#[]⟩ : ByteArray) = some (code (b && rest a0 a3 a4 T)) := by
  unfold rest code
  rw [inode_Check.j0, target_ok, Option.bind_some, inode_Check.j1, inode_Check.j1]
  simp only [beq_self_eq_true, Bool.true_and, beq_nil, beqI]
  by_cases k3 : a0 = 3
  · subst k3
    rw [if_pos rfl, if_neg (by decide : ¬ ((3 : Int) = 1)), if_neg (by decide : ¬ ((3 : Int) = 1)), if_neg (by decide : ¬ ((3 : Int) = 1)), if_neg (by decide : ¬ ((3 : Int) = 2)), if_pos rfl]
    cases b
    · rfl
    · generalize tgt T = t
      by_cases c : a4 = 0
      · cases t <;> simp [c]
      · cases t <;> simp [c]
  rw [if_neg k3]
  by_cases k1 : a0 = 1
  · subst k1
    rw [if_pos rfl, if_pos rfl, inode_Check.j1, if_pos rfl]
    simp only [beq_self_eq_true, Bool.true_and, beq_nil]
    cases b
    · rfl
    · by_cases c1 : 0 ≤ a4
      · by_cases c2 : a4 ≤ 4611686018427387904
        · by_cases c3 : T.size = 0 <;> simp [c1, c2, c3]
        · simp [c1, c2]
      · simp [c1]
  rw [if_neg k1, if_neg k1]
  by_cases k2 : a0 = 2
  · subst k2
    rw [if_pos rfl, if_pos rfl]
    cases b
    · rfl
    · by_cases c1 : a3 = 1
      · by_cases c2 : a4 = 0
        · by_cases c3 : T.size = 0 <;> simp [c1, c2, c3]
        · simp [c1, c2]
      · simp [c1]
  rw [if_neg k2, if_neg k2, if_neg k3, Bool.and_false]
  rfl
theorem check_ok (k : Nat) (hk : 2 ≤ k) : inode_Check.f k a0 a1 a2 a3 a4 T = some (code (isRight a0 a1 a3 a4 T)) := by
  obtain ⟨k, rfl⟩ : ∃ q, k = q + 2 := ⟨k - 2, by omega⟩
  rw [check_M, check_j]
  rfl
def inR (a0 a1 a3 a4 : Int) : Prop := 1 ≤ a0 ∧ a0 ≤ 3 ∧ 0 ≤ a1 ∧ a1 ≤ 4095 ∧ 1 ≤ a3 ∧ a3 ≤ 1099511627776 ∧ 0 ≤ a4 ∧ a4 ≤ 4611686018427387904
theorem right_no (h : ¬ inR a0 a1 a3 a4) : isRight a0 a1 a3 a4 T = false := by
  unfold isRight inM rest
  rw [Bool.eq_false_iff]
  intro g
  rw [Bool.and_eq_true, decide_eq_true_eq] at g
  obtain ⟨g1, g2⟩ := g
  apply h
  unfold inR
  by_cases k1 : a0 = 1
  · rw [if_pos k1] at g2; simp only [Bool.and_eq_true, decide_eq_true_eq] at g2; omega
  rw [if_neg k1] at g2
  by_cases k2 : a0 = 2
  · rw [if_pos k2] at g2; simp only [Bool.and_eq_true, decide_eq_true_eq] at g2; omega
  rw [if_neg k2] at g2
  by_cases k3 : a0 = 3
  · rw [if_pos k3] at g2; simp only [Bool.and_eq_true, decide_eq_true_eq] at g2; omega
  rw [if_neg k3] at g2
  exact absurd g2 (by decide)
/-- What isRight says. -/
theorem right_facts (h : isRight a0 a1 a3 a4 T = true) : 1 ≤ a0 ∧ a0 ≤ 3 ∧ 0 ≤ a1 ∧ a1 ≤ 4095 ∧ 1 ≤ a3 ∧ a3 ≤ 1099511627776 ∧ 0 ≤ a4 ∧ a4 ≤ 4611686018427387904 ∧ T.size ≤ 100 := by
  by_cases c : inR a0 a1 a3 a4
  · obtain ⟨c1, c2, c3, c4, c5, c6, c7, c8⟩ := c
    refine ⟨c1, c2, c3, c4, c5, c6, c7, c8, ?_⟩
    unfold isRight rest tgt at h
    rw [Bool.and_eq_true] at h
    replace h := h.2
    by_cases k1 : a0 = 1
    · rw [if_pos k1] at h; simp only [Bool.and_eq_true, decide_eq_true_eq] at h; omega
    rw [if_neg k1] at h
    by_cases k2 : a0 = 2
    · rw [if_pos k2] at h; simp only [Bool.and_eq_true, decide_eq_true_eq] at h; omega
    rw [if_neg k2] at h
    have k3 : a0 = 3 := by omega
    rw [if_pos k3] at h; simp only [Bool.and_eq_true, decide_eq_true_eq] at h; omega
  · rw [right_no a0 a1 a3 a4 T c] at h; exact absurd h (by decide)
def tm (a2 : Int) : Int := IntKind.u64.wrap a2
theorem tm_range : 0 ≤ tm a2 ∧ tm a2 < 18446744073709551616 := by
  have : tm a2 = a2 % 18446744073709551616 := wrap_u64 a2
  omega
theorem wrap_ok (x : Int) (h0 : 0 ≤ x) (h1 : x < 18446744073709551616) : IntKind.u64.wrap x = x := by rw [wrap_u64]; omega
def tail : ByteArray := if a0 = 1 then strOfNums (shortNums 9 a4) else if a0 = 3 then strOfNums (shortNums 9 T.size) ++ T else E
/-- A right inode's bytes. -/
def bytes : ByteArray := strOfNums [a0 % 256] ++ strOfNums (shortNums 9 a1) ++ strOfNums (fixedNums (tm a2)) ++ strOfNums (shortNums 9 a3) ++ tail a0 a4 T
def enc : ByteArray × Int := if isRight a0 a1 a3 a4 T = true then (bytes a0 a1 a2 a3 a4 T, 0) else (E, 1)
theorem app_E (x : ByteArray) : x ++ E = x := ByteArray.append_empty
theorem encode_ok (k : Nat) (hk : 2 ≤ k) : inode_Encode.f k a0 a1 a2 a3 a4 T = some (enc a0 a1 a2 a3 a4 T) := by
  unfold inode_Encode.f
  rw [check_ok a0 a1 a2 a3 a4 T k hk, Option.bind_some]
  unfold enc code
  cases hR : isRight a0 a1 a3 a4 T with
  | false => rw [if_neg (by decide), if_neg (by decide), if_neg (by decide)]; rfl
  | true =>
    obtain ⟨f1, f2, f3, f4, f5, f6, f7, f8, f9⟩ := right_facts a0 a1 a3 a4 T hR
    have r := tm_range a2
    have z1 := strOfNums_size (shortNums 9 a1); have l1 := shortNums_len 9 a1
    have z2 := strOfNums_size (fixedNums (tm a2)); have l2 : (fixedNums (tm a2)).length = 8 := rfl
    have z3 := strOfNums_size (shortNums 9 a3); have l3 := shortNums_len 9 a3
    have z4 := strOfNums_size (shortNums 9 a4); have l4 := shortNums_len 9 a4
    have z5 := strOfNums_size (shortNums 9 T.size); have l5 := shortNums_len 9 T.size
    have z0 : (strOfNums [a0 % 256]).size = 1 := by rw [strOfNums_size]; rfl
    have hF : pack_Fixed.f (IntKind.u64.wrap a2) = some (strOfNums (fixedNums (tm a2))) := by unfold pack_Fixed.f; exact if_pos r
    have hS1 : pack_Short.f (IntKind.u64.wrap a1) = some (strOfNums (shortNums 9 a1)) := by unfold pack_Short.f; rw [wrap_ok a1 f3 (by omega)]; exact if_pos ⟨f3, by omega⟩
    have hS3 : pack_Short.f (IntKind.u64.wrap a3) = some (strOfNums (shortNums 9 a3)) := by unfold pack_Short.f; rw [wrap_ok a3 (by omega) (by omega)]; exact if_pos ⟨by omega, by omega⟩
    have hS4 : pack_Short.f (IntKind.u64.wrap a4) = some (strOfNums (shortNums 9 a4)) := by unfold pack_Short.f; rw [wrap_ok a4 (by omega) (by omega)]; exact if_pos ⟨by omega, by omega⟩
    have hT : pack_Text.f T = some (strOfNums (shortNums 9 T.size) ++ T) := by unfold pack_Text.f; exact if_pos (by omega)
    have zt : (strOfNums (shortNums 9 T.size) ++ T).size = (shortNums 9 T.size).length + T.size := by rw [ByteArray.size_append, z5]
    rw [if_pos rfl, if_pos rfl, if_pos rfl, Option.bind_some, hS1, Option.bind_some, if_pos (by omega), hF, Option.bind_some, if_pos (by omega), hS3, Option.bind_some, if_pos (by omega)]
    unfold bytes tail
    by_cases k1 : a0 = 1
    · rw [if_pos k1, if_pos k1, hS4, Option.bind_some, if_pos (by omega)]
    rw [if_neg k1, if_neg k1]
    by_cases k3 : a0 = 3
    · rw [if_pos k3, if_pos k3, hT, Option.bind_some, if_pos (by omega)]
    rw [if_neg k3, if_neg k3, app_E]
end
end Go.Proofs.Ytppkdmocbhodpaa.InodeP
/-! What the document calls a right inode. -/
namespace Go.Proofs.Ytppkdmocbhodpaa.InodeP
open Go.RowKit Go.Proofs.Ytppkdmocbhodpaa.PA Go.Proofs.YtppkdmocbhodpaaW.PrintWords Go.Proofs.YtppkdmocbhodpaaW.PrintLast Go.Proofs.YtppkdmocbhodpaaW.PrintMore
open Go.Proofs.Ytppkdmocbhodpaa.Plain Go.Proofs.Ytppkdmocbhodpaa.TargetP
section
variable (a0 a1 a2 a3 a4 : Int) (T : ByteArray)
theorem right_M (k : Nat) : (inR a0 a1 a3 a4 → coppiceref14_Right.f k a0 a1 a2 a3 a4 T = coppiceref14_Right.j0 k false a0 a1 a2 a3 a4 T) ∧ (¬ inR a0 a1 a3 a4 → coppiceref14_Right.f k a0 a1 a2 a3 a4 T = coppiceref14_Right.j0 k true a0 a1 a2 a3 a4 T) := by
  unfold coppiceref14_Right.f inR
  by_cases h1 : a0 < 1
  · rw [if_pos h1]; exact ⟨fun h => absurd h (by omega), fun _ => rfl⟩
  rw [if_neg h1]
  by_cases h2 : a0 > 3
  · rw [if_pos h2]; exact ⟨fun h => absurd h (by omega), fun _ => rfl⟩
  rw [if_neg h2]
  by_cases h3 : a1 < 0
  · rw [if_pos h3]; exact ⟨fun h => absurd h (by omega), fun _ => rfl⟩
  rw [if_neg h3]
  by_cases h4 : a1 > 4095
  · rw [if_pos h4]; exact ⟨fun h => absurd h (by omega), fun _ => rfl⟩
  rw [if_neg h4]
  by_cases h5 : a3 < 1
  · rw [if_pos h5]; exact ⟨fun h => absurd h (by omega), fun _ => rfl⟩
  rw [if_neg h5]
  by_cases h6 : a3 > 1099511627776
  · rw [if_pos h6]; exact ⟨fun h => absurd h (by omega), fun _ => rfl⟩
  rw [if_neg h6]
  by_cases h7 : a4 < 0
  · rw [if_pos h7]; exact ⟨fun h => absurd h (by omega), fun _ => rfl⟩
  rw [if_neg h7]
  by_cases h8 : a4 > 4611686018427387904
  · rw [decide_eq_true h8]; exact ⟨fun h => absurd h (by omega), fun _ => rfl⟩
  · rw [decide_eq_false h8]; exact ⟨fun _ => rfl, fun h => absurd h (by omega)⟩
theorem right_j (k : Nat) (hk : T.size < k) (hT : T.size ≤ 4611686018427387904) (h : inR a0 a1 a3 a4) : coppiceref14_Right.j0 (k + 2) false a0 a1 a2 a3 a4 T = some (isRight a0 a1 a3 a4 T) := by
  unfold isRight
  have hm : inM a1 a3 = true := decide_eq_true (by unfold inR at h; omega)
  rw [hm, Bool.true_and]
  unfold rest
  obtain ⟨h0, h0', _, _, _, _, h4, h4'⟩ := h
  rw [coppiceref14_Right.j0, if_neg (by decide), coppiceref14_Right.j1, coppiceref14_Right.j1, coppiceref14_Right.j1, rtarget_ok T hT k hk, Option.bind_some, beq_nil']
  by_cases k3 : a0 = 3
  · subst k3
    by_cases c : a4 = 0
    · subst c; simp
    · simp [c]
  by_cases k1 : a0 = 1
  · subst k1
    rw [if_neg (by decide : ¬ ((1 : Int) = 2)), if_pos rfl, if_neg (by decide : ¬ (false = true)), if_neg k3, if_pos rfl, decide_eq_true h4, decide_eq_true h4']
    rfl
  have k2 : a0 = 2 := by omega
  subst k2
  rw [if_pos rfl, if_neg k1, if_neg k1, if_pos rfl]
  by_cases c1 : a3 = 1
  · rw [if_pos c1]
    by_cases c2 : a4 = 0
    · subst c2; simp [c1]
    · simp [c1, c2]
  · rw [if_neg c1, if_pos rfl]; simp [c1]
theorem right_ok (k : Nat) (hk : T.size + 2 < k) (hT : T.size ≤ 4611686018427387904) : coppiceref14_Right.f k a0 a1 a2 a3 a4 T = some (isRight a0 a1 a3 a4 T) := by
  obtain ⟨k, rfl⟩ : ∃ q, k = q + 2 := ⟨k - 2, by omega⟩
  by_cases c : inR a0 a1 a3 a4
  · rw [(right_M a0 a1 a2 a3 a4 T (k + 2)).1 c, right_j a0 a1 a2 a3 a4 T k (by omega) hT c]
  · rw [(right_M a0 a1 a2 a3 a4 T (k + 2)).2 c, right_no a0 a1 a3 a4 T c, coppiceref14_Right.j0, if_pos rfl]
end
end Go.Proofs.Ytppkdmocbhodpaa.InodeP
/-! inode's Decode and the document's answer alike; what is decoded has just these bytes; what was encoded is decoded as it was. -/
namespace Go.Proofs.Ytppkdmocbhodpaa.InodeP
open Go.RowKit Go.Proofs.Ytppkdmocbhodpaa.PA Go.Proofs.YtppkdmocbhodpaaW.PrintWords Go.Proofs.YtppkdmocbhodpaaW.PrintLast Go.Proofs.YtppkdmocbhodpaaW.PrintMore
open Go.Proofs.Ytppkdmocbhodpaa.Plain Go.Proofs.Ytppkdmocbhodpaa.TargetP Go.Proofs.Ytppkdmocbhodpaa.Ref02P Go.Proofs.Ytppkdmocbhodpaa.SimP

abbrev Ino := Int × Int × Int × Int × Int × ByteArray × Int
def noIno : Ino := (0, 0, 0, 0, 0, E, 21)
/-- What both answer of bytes that were read up to an inode's end. -/
def decEnd (a0 a1 a2 a3 a4 : Int) (T : ByteArray) (ok : Bool) : Ino := if ok && isRight a0 a1 a3 a4 T then (a0, a1, a2, a3, a4, T, 0) else noIno
theorem pw64 (x : Int) (h0 : -9223372036854775808 ≤ x) (h1 : x ≤ 9223372036854775807) : wrap64 x = x := by unfold wrap64; omega
section
variable (s : ByteArray) (a e : Int) (R : ByteArray) (h : SimP.Sim s a R) (h2 : s.size ≤ 4611686018427387904)
include h h2
theorem j0_ok (k : Nat) (hk : 2 ≤ k) (a0 a1 a2 a3 a4 : Int) (T : ByteArray) :
    inode_Decode.j0 (k + 1) s a e a0 a1 a2 a3 a4 T = some (decEnd a0 a1 a2 a3 a4 T (decide (e = 0 ∧ a = s.size))) := by
  obtain ⟨v, hv, _, hz⟩ := end_both s a e R h h2
  rw [inode_Decode.j0, hv, Option.bind_some]
  unfold decEnd
  by_cases c : v = 0
  · rw [if_pos c, check_ok a0 a1 a2 a3 a4 T k hk, Option.bind_some, decide_eq_true (hz.1 c), Bool.true_and]
    unfold code
    cases isRight a0 a1 a3 a4 T <;> rfl
  · rw [if_neg c, decide_eq_false (fun q => c (hz.2 q))]
    rfl
theorem rj1_ok (k : Nat) (hk : 103 ≤ k) (a0 a1 a2 a3 a4 : Int) (T : ByteArray) (ha0 : 0 ≤ a0 ∧ a0 < 256) (ha1 : 0 ≤ a1 ∧ a1 < 18446744073709551616) (ha3 : 0 ≤ a3 ∧ a3 < 18446744073709551616) (ha4 : 0 ≤ a4 ∧ a4 < 18446744073709551616) (hT : T.size ≤ 100) :
    coppiceref14_Decode.j1 (k + 2) a0 a1 a2 a3 a4 T R e = some (decEnd a0 (wrap64 a1) (wrap64 a2) (wrap64 a3) (wrap64 a4) T (decide (e = 0 ∧ a = s.size))) := by
  obtain ⟨v, _, hv, hz⟩ := end_both s a e R h h2
  rw [coppiceref14_Decode.j1, hv, Option.bind_some]
  unfold decEnd
  have hj : ∀ b, coppiceref14_Decode.j2 (k + 1) a0 a1 a2 a3 a4 T b = some (if b then noIno else if isRight a0 (wrap64 a1) (wrap64 a3) (wrap64 a4) T then (a0, wrap64 a1, wrap64 a2, wrap64 a3, wrap64 a4, T, 0) else noIno) := by
    intro b
    rw [coppiceref14_Decode.j2]
    cases b
    · rw [if_neg (by decide), pw64 a0 (by omega) (by omega), right_ok a0 (wrap64 a1) (wrap64 a2) (wrap64 a3) (wrap64 a4) T k (by omega) (by omega), Option.bind_some]
      cases isRight a0 (wrap64 a1) (wrap64 a3) (wrap64 a4) T <;> rfl
    · rfl
  have hno : inR a0 (wrap64 a1) (wrap64 a3) (wrap64 a4) ∨ isRight a0 (wrap64 a1) (wrap64 a3) (wrap64 a4) T = false := by
    by_cases c : inR a0 (wrap64 a1) (wrap64 a3) (wrap64 a4)
    · exact .inl c
    · exact .inr (right_no a0 (wrap64 a1) (wrap64 a3) (wrap64 a4) T c)
  by_cases c : v = 0
  · rw [if_pos c, decide_eq_true (hz.1 c), Bool.true_and]
    rcases hno with hin | hno
    · obtain ⟨_, _, i1, i2, i3, i4, i5, i6⟩ := hin
      rw [if_neg (show ¬ a1 > 4095 by unfold wrap64 at *; omega), if_neg (show ¬ a3 > 1099511627776 by unfold wrap64 at *; omega), decide_eq_false (show ¬ a4 > 4611686018427387904 by unfold wrap64 at *; omega), hj]
      rfl
    · rw [hno]
      by_cases c1 : a1 > 4095
      · rw [if_pos c1, hj]; rfl
      by_cases c2 : a3 > 1099511627776
      · rw [if_neg c1, if_pos c2, hj]; rfl
      rw [if_neg c1, if_neg c2, hj, hno]
      cases decide (a4 > 4611686018427387904) <;> rfl
  · rw [if_neg c, hj, decide_eq_false (fun q => c (hz.2 q))]
    rfl
end
theorem two_extract (s : ByteArray) (a b c : Nat) (h1 : a ≤ b) (h2 : b ≤ c) (h3 : c ≤ s.size) : s.extract a b ++ s.extract b c = s.extract a c := by
  have z1 : (s.extract a b).size = b - a := by rw [ByteArray.size_extract]; omega
  have z2 : (s.extract b c).size = c - b := by rw [ByteArray.size_extract]; omega
  have z3 : (s.extract a c).size = c - a := by rw [ByteArray.size_extract]; omega
  apply ba_ext _ _ (by rw [ByteArray.size_append]; omega)
  intro i hi
  rw [ByteArray.size_append] at hi
  rw [bt_extract s a c i (by omega)]
  rcases Nat.lt_or_ge i (b - a) with hl | hl
  · rw [bt_append_left _ _ i (by omega), bt_extract s a b i (by omega)]
  · obtain ⟨j, rfl⟩ : ∃ j, i = (b - a) + j := ⟨i - (b - a), by omega⟩
    have := bt_append_right (s.extract a b) (s.extract b c) j (by omega)
    rw [z1] at this
    rw [this, bt_extract s b c j (by omega)]
    congr 1
    omega
theorem tm_wrap (x : Int) (h0 : 0 ≤ x) (h1 : x < 18446744073709551616) : tm (wrap64 x) = x := by
  have : tm (wrap64 x) = wrap64 x % 18446744073709551616 := wrap_u64 _
  rw [this]; unfold wrap64; omega
/-- Both decode alike; what is decoded is right, and has just these bytes. -/
theorem decode_both (s : ByteArray) (h2 : s.size ≤ 4611686018427387904) (k : Nat) (hk : 200 ≤ k) :
    ∃ r : Ino, inode_Decode.f k s = some r ∧ coppiceref14_Decode.f k s = some r ∧ (r = noIno ∨ (r.2.2.2.2.2.2 = 0 ∧ isRight r.1 r.2.1 r.2.2.2.1 r.2.2.2.2.1 r.2.2.2.2.2.1 = true ∧ bytes r.1 r.2.1 r.2.2.1 r.2.2.2.1 r.2.2.2.2.1 r.2.2.2.2.2.1 = s)) := by
  obtain ⟨v0, b0, e0, R0, p0, q0, S0, P0, w0⟩ := byte_both s 0 0 s (Sim.start s) h2
  obtain ⟨v1, b1, e1, R1, p1, q1, S1, P1, w1⟩ := short_both s b0 e0 R0 S0 h2 k (by omega)
  obtain ⟨v2, b2, e2, R2, p2, q2, S2, P2, w2⟩ := fixed_both s b1 e1 R1 S1 h2 k (by omega)
  obtain ⟨v3, b3, e3, R3, p3, q3, S3, P3, w3⟩ := short_both s b2 e2 R2 S2 h2 k (by omega)
  obtain ⟨m, rfl⟩ : ∃ m, k = m + 3 := ⟨k - 3, by omega⟩
  unfold inode_Decode.f coppiceref14_Decode.f
  rw [show pack_Read.f s = some (s, 0, 0) from rfl, Option.bind_some, p0, Option.bind_some, p1, Option.bind_some, p2, Option.bind_some, p3, Option.bind_some,
    q0, Option.bind_some, q1, Option.bind_some, q2, Option.bind_some, q3, Option.bind_some, pw64 v0 (by omega) (by omega)]
  -- what the end says
  have fin : ∀ (b4 e4 v4 : Int) (T t : ByteArray) (a4 : Int), b3 ≤ b4 → b4 ≤ s.size → (e4 = 0 → e3 = 0 ∧ s.extract b3.toNat b4.toNat = t) → (isRight v0 (wrap64 v1) (wrap64 v3) a4 T = true → t = tail v0 a4 T) →
      (decEnd v0 (wrap64 v1) (wrap64 v2) (wrap64 v3) a4 T (decide (e4 = 0 ∧ b4 = s.size)) = noIno ∨
        ((decEnd v0 (wrap64 v1) (wrap64 v2) (wrap64 v3) a4 T (decide (e4 = 0 ∧ b4 = s.size))).2.2.2.2.2.2 = 0 ∧
         isRight (decEnd v0 (wrap64 v1) (wrap64 v2) (wrap64 v3) a4 T (decide (e4 = 0 ∧ b4 = s.size))).1 (decEnd v0 (wrap64 v1) (wrap64 v2) (wrap64 v3) a4 T (decide (e4 = 0 ∧ b4 = s.size))).2.1 (decEnd v0 (wrap64 v1) (wrap64 v2) (wrap64 v3) a4 T (decide (e4 = 0 ∧ b4 = s.size))).2.2.2.1 (decEnd v0 (wrap64 v1) (wrap64 v2) (wrap64 v3) a4 T (decide (e4 = 0 ∧ b4 = s.size))).2.2.2.2.1 (decEnd v0 (wrap64 v1) (wrap64 v2) (wrap64 v3) a4 T (decide (e4 = 0 ∧ b4 = s.size))).2.2.2.2.2.1 = true ∧
         bytes (decEnd v0 (wrap64 v1) (wrap64 v2) (wrap64 v3) a4 T (decide (e4 = 0 ∧ b4 = s.size))).1 (decEnd v0 (wrap64 v1) (wrap64 v2) (wrap64 v3) a4 T (decide (e4 = 0 ∧ b4 = s.size))).2.1 (decEnd v0 (wrap64 v1) (wrap64 v2) (wrap64 v3) a4 T (decide (e4 = 0 ∧ b4 = s.size))).2.2.1 (decEnd v0 (wrap64 v1) (wrap64 v2) (wrap64 v3) a4 T (decide (e4 = 0 ∧ b4 = s.size))).2.2.2.1 (decEnd v0 (wrap64 v1) (wrap64 v2) (wrap64 v3) a4 T (decide (e4 = 0 ∧ b4 = s.size))).2.2.2.2.1 (decEnd v0 (wrap64 v1) (wrap64 v2) (wrap64 v3) a4 T (decide (e4 = 0 ∧ b4 = s.size))).2.2.2.2.2.1 = s)) := by
    intro b4 e4 v4 T t a4 hb hb' ht htt
    unfold decEnd
    by_cases c : e4 = 0 ∧ b4 = s.size
    · rw [decide_eq_true c, Bool.true_and]
      cases hR : isRight v0 (wrap64 v1) (wrap64 v3) a4 T with
      | false => exact .inl rfl
      | true =>
        refine .inr ⟨rfl, hR, ?_⟩
        obtain ⟨t3, tt⟩ := ht c.1
        obtain ⟨t2, l3, x3⟩ := w3 t3
        obtain ⟨t1, l2, x2⟩ := w2 t2
        obtain ⟨t0, l1, x1⟩ := w1 t1
        obtain ⟨_, l0, x0⟩ := w0 t0
        obtain ⟨f1, f2, f3, f4, f5, f6, f7, f8, f9⟩ := right_facts v0 (wrap64 v1) (wrap64 v3) a4 T hR
        have m1 : wrap64 v1 = v1 := by unfold wrap64 at *; omega
        have m3 : wrap64 v3 = v3 := by unfold wrap64 at *; omega
        show bytes v0 (wrap64 v1) (wrap64 v2) (wrap64 v3) a4 T = s
        unfold bytes
        rw [← htt hR, ← tt, m1, m3, tm_wrap v2 P2.1 P2.2, show v0 % 256 = v0 by omega]
        replace x0 : s.extract (0 : Int).toNat b0.toNat = strOfNums [v0] := x0
        replace x1 : s.extract b0.toNat b1.toNat = strOfNums (shortNums 9 v1) := x1
        replace x2 : s.extract b1.toNat b2.toNat = strOfNums (fixedNums v2) := x2
        replace x3 : s.extract b2.toNat b3.toNat = strOfNums (shortNums 9 v3) := x3
        rw [← x0, ← x1, ← x2, ← x3]
        have g0 := S0.h0; have g1 := S1.h0; have g2 := S2.h0; have g3 := S3.h0
        have g0' := S0.h1; have g1' := S1.h1; have g2' := S2.h1; have g3' := S3.h1
        rw [two_extract s _ _ _ (by omega) (by omega) (by omega), two_extract s _ _ _ (by omega) (by omega) (by omega), two_extract s _ _ _ (by omega) (by omega) (by omega), two_extract s _ _ _ (by omega) (by omega) (by omega)]
        rw [c.2, show ((0 : Int).toNat) = 0 from rfl, Int.toNat_natCast, ByteArray.extract_zero_size]
    · rw [decide_eq_false c]
      exact .inl rfl
  by_cases k1 : v0 = 1
  · obtain ⟨v4, b4, e4, R4, p4, q4, S4, P4, w4⟩ := short_both s b3 e3 R3 S3 h2 (m + 3) (by omega)
    rw [if_pos k1, if_pos k1, p4, Option.bind_some, q4, Option.bind_some, j0_ok s b4 e4 R4 S4 h2 (m + 2) (by omega), coppiceref14_Decode.j0, if_neg (show ¬ v0 = 3 by omega), rj1_ok s b4 e4 R4 S4 h2 m (by omega) v0 v1 v2 v3 v4 _ P0 P1 P3 P4 (by decide)]
    refine ⟨_, rfl, rfl, ?_⟩
    by_cases ce : e4 = 0
    · have ww := w4 ce
      refine fin b4 e4 v4 ⟨#[]⟩ (strOfNums (shortNums 9 v4)) (wrap64 v4) ww.2.1 S4.h1 (fun _ => ⟨ww.1, ww.2.2⟩) ?_
      intro hR
      obtain ⟨f1, f2, f3, f4, f5, f6, f7, f8, f9⟩ := right_facts v0 (wrap64 v1) (wrap64 v3) (wrap64 v4) _ hR
      have m4 : wrap64 v4 = v4 := by unfold wrap64 at *; omega
      unfold tail
      rw [if_pos k1, m4]
    · left
      unfold decEnd
      rw [decide_eq_false (fun q => ce q.1)]
      rfl
  by_cases k3 : v0 = 3
  · obtain ⟨T, b4, e4, R4, p4, q4, S4, P4, w4⟩ := text_both s b3 e3 R3 S3 h2 (m + 3) (by omega) 100 (by omega)
    obtain ⟨T', b4', e4', R4', p4', q4', S4', P4', w4'⟩ := text_both s b3 e3 R3 S3 h2 (m + 2) (by omega) 100 (by omega)
    have hsame : T' = T ∧ R4' = R4 ∧ e4' = e4 := by
      have h1 := pack_Reader_Text.mono s b3 e3 100 (m + 2) _ p4'
      rw [show m + 2 + 1 = m + 3 from rfl, p4] at h1
      injection h1 with h1
      have hT : T = T' := congrArg (fun x => x.1) h1
      have hb : b4 = b4' := congrArg (fun x => x.2.2.1) h1
      have he : e4 = e4' := congrArg (fun x => x.2.2.2) h1
      refine ⟨hT.symm, ?_, he.symm⟩
      rw [S4.hR, S4'.hR, hb]
    obtain ⟨rfl, rfl, rfl⟩ := hsame
    rw [if_neg k1, if_pos k3, if_neg k1, p4, Option.bind_some, j0_ok s b4 e4' R4' S4 h2 (m + 2) (by omega), coppiceref14_Decode.j0, if_pos k3, q4', Option.bind_some, rj1_ok s b4 e4' R4' S4 h2 m (by omega) v0 v1 v2 v3 0 T' P0 P1 P3 (by omega) (by omega), show wrap64 (0 : Int) = 0 by unfold wrap64; omega]
    refine ⟨_, rfl, rfl, ?_⟩
    by_cases ce : e4' = 0
    · have ww := w4 ce
      refine fin b4 e4' 0 T' (strOfNums (shortNums 9 T'.size) ++ T') 0 ww.2.1 S4.h1 (fun _ => ⟨ww.1, ww.2.2⟩) ?_
      intro hR
      unfold tail
      rw [if_neg k1, if_pos k3]
    · left
      unfold decEnd
      rw [decide_eq_false (fun q => ce q.1)]
      rfl
  rw [if_neg k1, if_neg k3, if_neg k1, j0_ok s b3 e3 R3 S3 h2 (m + 2) (by omega), coppiceref14_Decode.j0, if_neg k3, rj1_ok s b3 e3 R3 S3 h2 m (by omega) v0 v1 v2 v3 0 _ P0 P1 P3 (by omega) (by decide), show wrap64 (0 : Int) = 0 by unfold wrap64; omega]
  refine ⟨_, rfl, rfl, ?_⟩
  refine fin b3 e3 0 ⟨#[]⟩ E 0 (by omega) S3.h1 (fun q => ⟨q, ?_⟩) ?_
  · apply ba_ext
    · rw [ByteArray.size_extract]; show min b3.toNat s.size - b3.toNat = 0; omega
    · intro i hi
      rw [ByteArray.size_extract] at hi
      omega
  · intro hR
    unfold tail
    rw [if_neg k1, if_neg k3]
end Go.Proofs.Ytppkdmocbhodpaa.InodeP
