import Derived.Test.YtgnffienfjigiaaDoorPAx3
import Derived.Test.YtgnffienfjigiaaDoorSpN
/-! Right bytes: what the program's Check and the document's one answer. -/
set_option linter.unusedVariables false
set_option linter.unusedSimpArgs false
namespace Go.Proofs.YtgnffienfjigiaaDoor.SpP
open Go.RowKit Go.Proofs.YtgnffienfjigiaaDoor.PA Go.Proofs.YtgnffienfjigiaaDoorW.PrintWords Go.Proofs.YtgnffienfjigiaaDoorW.PrintMore
open Go.Proofs.YtgnffienfjigiaaDoor.Plain
theorem dropP (l : List Pc) (j : Nat) (hj : j < l.length) : l.drop j = rd_T39 l (j : Int) :: l.drop (j + 1) := by
  rw [List.drop_eq_getElem_cons hj]
  unfold rd_T39
  rw [Int.toNat_natCast, List.getD_eq_getElem?_getD, List.getElem?_eq_getElem hj]; rfl
theorem rd_mem (l : List Pc) (j : Nat) (hj : j < l.length) : rd_T39 l (j : Int) ∈ l := by
  unfold rd_T39
  rw [Int.toNat_natCast, List.getD_eq_getElem?_getD, List.getElem?_eq_getElem hj]
  exact List.getElem_mem hj
theorem w64 {x : Int} (h0 : -9223372036854775808 ≤ x) (h1 : x ≤ 9223372036854775807) : wrap64 x = x := by unfold wrap64; omega
theorem w1 {j : Nat} (h : j < 4611686018427387904) : wrap64 ((j : Int) + 1) = ((j + 1 : Nat) : Int) := by rw [w64 (by omega) (by omega)]; omega
theorem bt_getD (s : ByteArray) (k : Nat) : bt s (k : Int) = (((s.data.toList[k]?).getD 0).toNat : Int) := by
  rw [← rd_bytesOf]
  unfold rd bytesOf
  rw [Int.toNat_natCast, List.getD_eq_getElem?_getD, List.getElem?_map]
  cases s.data.toList[k]? with
  | none => rfl
  | some b => rfl
/-! One piece, and the pieces behind it. -/
def zeroB (size : Int) (p : Pc) : Bool := (List.range 64).all fun k => decide (p.f0 * 64 + (k : Int) < size) || (bt p.f1 (k : Int) == 0)
def okP (size last : Int) (p : Pc) : Bool := decide (last < p.f0) && (decide (p.f0 * 64 < size) && (decide (p.f1.size = 64) && zeroB size p))
def okL (size : Int) : Int → List Pc → Bool
  | _, [] => true
  | last, p :: l => okP size last p && okL size p.f0 l
def goodB (l : List Pc) (size : Int) : Bool := decide (0 ≤ size) && (decide (size ≤ 4611686018427387904) && okL size (-1) l)
theorem zeroB_iff (size : Int) (p : Pc) : zeroB size p = true ↔ ∀ k : Int, 0 ≤ k → k < 64 → size ≤ p.f0 * 64 + k → bt p.f1 k = 0 := by
  unfold zeroB
  rw [List.all_eq_true]
  constructor
  · intro h k h0 h1 h2
    have := h k.toNat (List.mem_range.2 (by omega))
    rw [Bool.or_eq_true, decide_eq_true_iff, beq_iff_eq, Int.toNat_of_nonneg h0] at this
    rcases this with h3 | h3
    · omega
    · exact h3
  · intro h k hk
    have hk := List.mem_range.1 hk
    rw [Bool.or_eq_true, decide_eq_true_iff, beq_iff_eq]
    by_cases h1 : p.f0 * 64 + (k : Int) < size
    · exact .inl h1
    · exact .inr (h k (by omega) (by omega) (by omega))
theorem okP_iff (size last : Int) (p : Pc) : okP size last p = true ↔ last < p.f0 ∧ p.f0 * 64 < size ∧ p.f1.size = 64 ∧ zeroB size p = true := by
  unfold okP
  rw [Bool.and_eq_true, Bool.and_eq_true, Bool.and_eq_true, decide_eq_true_iff, decide_eq_true_iff, decide_eq_true_iff]
theorem okL_iff (size : Int) : ∀ (l : List Pc) (last : Int), okL size last l = true ↔ Rise l ∧ ∀ p ∈ l, okP size last p = true
  | [], last => ⟨fun _ => ⟨List.Pairwise.nil, (fun p hp => by cases hp)⟩, fun _ => rfl⟩
  | p :: l, last => by
    show (okP size last p && okL size p.f0 l) = true ↔ _
    rw [Bool.and_eq_true, okL_iff size l p.f0]
    constructor
    · rintro ⟨h1, h2, h3⟩
      have h1' := (okP_iff _ _ _).1 h1
      refine ⟨List.pairwise_cons.2 ⟨fun x hx => ((okP_iff _ _ _).1 (h3 x hx)).1, h2⟩, fun x hx => ?_⟩
      rcases List.mem_cons.1 hx with rfl | hx
      · exact h1
      · have h4 := (okP_iff _ _ _).1 (h3 x hx)
        exact (okP_iff _ _ _).2 ⟨by omega, h4.2⟩
    · rintro ⟨h1, h2⟩
      obtain ⟨h3, h4⟩ := List.pairwise_cons.1 h1
      refine ⟨h2 p (List.mem_cons_self ..), h4, fun x hx => ?_⟩
      have h5 := (okP_iff _ _ _).1 (h2 x (List.mem_cons_of_mem _ hx))
      exact (okP_iff _ _ _).2 ⟨h3 x hx, h5.2⟩
theorem goodB_iff (l : List Pc) (size : Int) : goodB l size = true ↔ Good l size := by
  unfold goodB
  rw [Bool.and_eq_true, Bool.and_eq_true, decide_eq_true_iff, decide_eq_true_iff, okL_iff]
  constructor
  · rintro ⟨h0, h1, h2, h3⟩
    have h4 := fun p hp => (okP_iff _ _ _).1 (h3 p hp)
    exact ⟨h0, h1, h2, fun p hp => ⟨by have := (h4 p hp).1; omega, (h4 p hp).2.1⟩, fun p hp => (h4 p hp).2.2.1, fun p hp => (zeroB_iff _ _).1 (h4 p hp).2.2.2⟩
  · intro h
    exact ⟨h.lo, h.hi, h.rise, fun p hp => (okP_iff _ _ _).2 ⟨by have := (h.idx p hp).1; omega, (h.idx p hp).2, h.sz p hp, (zeroB_iff _ _).2 (h.zero p hp)⟩⟩
theorem goodB_of {l : List Pc} {size : Int} (h : Good l size) : goodB l size = true := (goodB_iff _ _).2 h
/-! Trim of zero bytes leaves nothing just where all are zeros. -/
theorem dropWhile_all (p : UInt8 → Bool) : ∀ l : List UInt8, (∀ x ∈ l.dropWhile p, p x = true) → ∀ x ∈ l, p x = true
  | [], _ => fun x hx => by cases hx
  | y :: l, h => by
    rw [List.dropWhile_cons] at h
    split at h
    · rename_i hy
      intro x hx
      rcases List.mem_cons.1 hx with rfl | hx
      · exact hy
      · exact dropWhile_all p l h x hx
    · exact h
theorem dropWhile_nil (p : UInt8 → Bool) : ∀ l : List UInt8, l.dropWhile p = [] ↔ ∀ x ∈ l, p x = true
  | [] => ⟨fun _ => (fun x hx => by cases hx), fun _ => rfl⟩
  | y :: l => by
    rw [List.dropWhile_cons]
    by_cases hy : p y = true
    · rw [if_pos hy, dropWhile_nil p l]
      constructor
      · intro h x hx
        rcases List.mem_cons.1 hx with rfl | hx
        · exact hy
        · exact h x hx
      · exact fun h x hx => h x (List.mem_cons_of_mem _ hx)
    · rw [if_neg hy]
      exact ⟨fun h => (by cases h), fun h => absurd (h y (List.mem_cons_self ..)) hy⟩
theorem trim_nil (l : List UInt8) : Lib.trimB l 0 = [] ↔ ∀ x ∈ l, x = 0 := by
  unfold Lib.trimB Lib.trimLeftB
  rw [dropWhile_nil]
  unfold Lib.trimRightB
  constructor
  · intro h x hx
    have h2 : ∀ x ∈ l.reverse.dropWhile (· == 0), (x == 0) = true := fun x hx => h x (List.mem_reverse.2 hx)
    exact eq_of_beq (dropWhile_all _ _ h2 x (List.mem_reverse.2 hx))
  · intro h x hx
    have := List.mem_reverse.1 hx
    have := (List.dropWhile_suffix (· == 0)).subset this
    rw [h x (List.mem_reverse.1 this)]
    rfl
theorem trimmed {p : Pc} {size left : Int} (hs : p.f1.size = 64) (hl : left = size - p.f0 * 64) (h0 : 0 ≤ left) (h1 : left < 64) :
    strings_Trim.f (p.f1.extract left.toNat p.f1.size) (⟨#[0]⟩ : ByteArray) = some ⟨(Lib.trimB (p.f1.extract left.toNat p.f1.size).data.toList 0).toArray⟩ ∧
    ((⟨(Lib.trimB (p.f1.extract left.toNat p.f1.size).data.toList 0).toArray⟩ : ByteArray).toList = ([] : List UInt8) ↔ zeroB size p = true) := by
  constructor
  · unfold strings_Trim.f
    rw [if_pos ⟨rfl, by rw [ByteArray.size_extract, hs]; omega⟩]
  · rw [ByteArray.toList_eq]
    show Lib.trimB _ 0 = [] ↔ _
    rw [trim_nil, zeroB_iff]
    have hsz : (p.f1.extract left.toNat p.f1.size).size = 64 - left.toNat := by rw [ByteArray.size_extract, hs]; omega
    constructor
    · intro h k k0 k1 k2
      obtain ⟨j, hj⟩ : ∃ j : Nat, k = ((left.toNat + j : Nat) : Int) := ⟨(k - left).toNat, by omega⟩
      have hlt : j < (p.f1.extract left.toNat p.f1.size).size := by omega
      rw [hj, ← bt_extract p.f1 left.toNat p.f1.size j hlt, bt_nat _ j hlt]
      have := h (p.f1.extract left.toNat p.f1.size)[j] (by rw [Array.mem_toList_iff]; exact Array.getElem_mem _)
      rw [this]
      rfl
    · intro h x hx
      obtain ⟨j, hj, rfl⟩ := List.mem_iff_getElem.1 hx
      have hlt : j < (p.f1.extract left.toNat p.f1.size).size := by rw [Array.length_toList] at hj; exact hj
      have e := h ((left.toNat + j : Nat) : Int) (by omega) (by omega) (by omega)
      rw [← bt_extract p.f1 left.toNat p.f1.size j hlt, bt_nat _ j hlt] at e
      rw [Array.getElem_toList]
      have e2 : ((p.f1.extract left.toNat p.f1.size)[j]).toNat = 0 := by exact_mod_cast e
      exact UInt8.toNat_inj.mp e2
end Go.Proofs.YtgnffienfjigiaaDoor.SpP
