import Derived.Lib.OthersKept
import Derived.Laws.RangeAny
set_option linter.unusedVariables false
set_option linter.unusedSimpArgs false
namespace Go.Proofs.YtofdpgcnconibaaGreatDoor.Plain
/-- No '/' and no zero byte among them. -/
def freeL (l : List UInt8) : Bool := l.all fun c => c != 47 && c != 0
/-- What else a name must be. -/
def nameOk (s : ByteArray) : Bool := !s.toList.isEmpty && (decide ((s.size : Int) ≤ 255) && (!(s.toList == [46]) && !(s.toList == [46, 46])))
theorem freeL_high (l m : List UInt8) (h : ∀ c ∈ l, 128 ≤ c.toNat) : freeL (l ++ m) = freeL m := by
  unfold freeL
  rw [List.all_append]
  have : l.all (fun c => c != 47 && c != 0) = true := by
    rw [List.all_eq_true]
    intro c hc
    have := h c hc
    have h1 : c ≠ 47 := fun e => by rw [e] at this; exact absurd this (by decide)
    have h2 : c ≠ 0 := fun e => by rw [e] at this; exact absurd this (by decide)
    simp [h1, h2]
  rw [this, Bool.true_and]
theorem get_bang (s : ByteArray) (i : Nat) (h : i < s.size) : s.get! i = s[i]'h := by
  simp [ByteArray.get!, getElem!_pos, h]; rfl
theorem decode_width (s : ByteArray) (pos : Nat) (h : pos < s.size) (ha : 128 ≤ (s[pos]'h).toNat) :
    (Utf8.decode s pos).2 = 1 ∨ ((Utf8.decode s pos).2 = 2 ∧ (pos + 1 < s.size ∧ 128 ≤ (s.get! (pos + 1)).toNat)) ∨
    ((Utf8.decode s pos).2 = 3 ∧ (pos + 1 < s.size ∧ 128 ≤ (s.get! (pos + 1)).toNat) ∧ (pos + 2 < s.size ∧ 128 ≤ (s.get! (pos + 2)).toNat)) ∨
    ((Utf8.decode s pos).2 = 4 ∧ (pos + 1 < s.size ∧ 128 ≤ (s.get! (pos + 1)).toNat) ∧ (pos + 2 < s.size ∧ 128 ≤ (s.get! (pos + 2)).toNat) ∧ (pos + 3 < s.size ∧ 128 ≤ (s.get! (pos + 3)).toNat)) := by
  have hn : ¬ (s[pos]'h).toNat < 128 := by omega
  have e0 : s.get! (pos + 0) = s[pos]'h := get_bang s pos h
  simp only [Utf8.decode, e0, hn, if_false]
  repeat' split
  all_goals simp_all
  all_goals omega
theorem decode_cont (s : ByteArray) (pos : Nat) (h : pos < s.size) (ha : 128 ≤ (s[pos]'h).toNat) : pos + (Utf8.decode s pos).2 ≤ s.size ∧ ∀ k, k < (Utf8.decode s pos).2 → ∀ hk : pos + k < s.size, 128 ≤ (s[pos + k]'hk).toNat := by
  have key : pos + (Utf8.decode s pos).2 ≤ s.size ∧ ∀ k, k < (Utf8.decode s pos).2 → 128 ≤ (s.get! (pos + k)).toNat := by
    have h0 : 128 ≤ (s.get! (pos + 0)).toNat := by rw [get_bang s (pos + 0) h]; exact ha
    rcases decode_width s pos h ha with e | ⟨e, ⟨a1, b1⟩⟩ | ⟨e, ⟨a1, b1⟩, a2, b2⟩ | ⟨e, ⟨a1, b1⟩, ⟨a2, b2⟩, a3, b3⟩
    all_goals rw [e]
    all_goals refine ⟨by omega, fun k hk => ?_⟩
    · obtain rfl : k = 0 := by omega
      exact h0
    · obtain rfl | rfl : k = 0 ∨ k = 1 := by omega
      · exact h0
      · exact b1
    · obtain rfl | rfl | rfl : k = 0 ∨ k = 1 ∨ k = 2 := by omega
      · exact h0
      · exact b1
      · exact b2
    · obtain rfl | rfl | rfl | rfl : k = 0 ∨ k = 1 ∨ k = 2 ∨ k = 3 := by omega
      · exact h0
      · exact b1
      · exact b2
      · exact b3
  refine ⟨key.1, fun k hk hk2 => ?_⟩
  rw [← get_bang s (pos + k) hk2]; exact key.2 k hk
theorem freeL_decode (s : ByteArray) (pos : Nat) (h : pos < s.size) : freeL (s.data.toList.drop pos) = ((Utf8.decode s pos).1 != 47 && (Utf8.decode s pos).1 != 0 && freeL (s.data.toList.drop (pos + (Utf8.decode s pos).2))) ∧ pos + (Utf8.decode s pos).2 ≤ s.size := by
  have hl : s.data.toList.length = s.size := by rw [Array.length_toList]; rfl
  by_cases ha : (s[pos]'h).toNat < 128
  · have e := decode_ascii s pos h ha
    rw [e]
    refine ⟨?_, by simp only; omega⟩
    have hd : s.data.toList.drop pos = s[pos]'h :: s.data.toList.drop (pos + 1) := by
      rw [List.drop_eq_getElem_cons (by omega)]; rfl
    rw [hd]
    unfold freeL
    rw [List.all_cons]
    congr 1
    generalize s[pos]'h = c at *
    have f1 : (c != 47) = (c.toNat != 47) := by
      rw [Bool.eq_iff_iff]; simp only [bne_iff_ne, ne_eq, ← UInt8.toNat_inj]; rfl
    have f2 : (c != 0) = (c.toNat != 0) := by
      rw [Bool.eq_iff_iff]; simp only [bne_iff_ne, ne_eq, ← UInt8.toNat_inj]; rfl
    rw [f1, f2]
  · obtain ⟨h1, h2⟩ := decode_cont s pos h (by omega)
    have hh := decode_high s pos h (by omega)
    refine ⟨?_, h1⟩
    have e1 : ((Utf8.decode s pos).1 != 47) = true := by simp; omega
    have e2 : ((Utf8.decode s pos).1 != 0) = true := by simp; omega
    rw [e1, e2, Bool.true_and, Bool.true_and]
    have e3 : s.data.toList.drop pos = (s.data.toList.drop pos).take (Utf8.decode s pos).2 ++ s.data.toList.drop (pos + (Utf8.decode s pos).2) := by
      rw [← List.drop_drop, List.take_append_drop]
    rw [e3, freeL_high]
    intro c hc
    obtain ⟨k, hk, rfl⟩ := List.mem_iff_getElem.1 hc
    rw [List.length_take, List.length_drop] at hk
    rw [List.getElem_take, List.getElem_drop]
    exact h2 k (by omega) (by omega)
theorem ext_listL {x y : ByteArray} (h : x.data.toList = y.data.toList) : x = y := by
  cases x; cases y
  congr 1
  exact Array.toList_inj.1 h
theorem extract_listL (s : ByteArray) (i j : Nat) : (s.extract i j).data.toList = (s.data.toList.drop i).take (j - i) := by
  rw [ByteArray.data_extract, Array.toList_extract]
theorem extract_headL (s : ByteArray) (c : UInt8) (b : List UInt8) (h : s.data.toList = c :: b) : s.extract 0 1 = ⟨#[c]⟩ := by
  apply ext_listL
  rw [extract_listL, h]; rfl
theorem extract_tailL (s : ByteArray) (c : UInt8) (b : List UInt8) (h : s.data.toList = c :: b) : s.extract 1 s.size = ⟨b.toArray⟩ := by
  apply ext_listL
  have hz : s.size = b.length + 1 := by
    have : s.data.toList.length = s.size := by rw [Array.length_toList]; rfl
    rw [← this, h]; rfl
  rw [extract_listL, h, hz]
  simp
end Go.Proofs.YtofdpgcnconibaaGreatDoor.Plain
