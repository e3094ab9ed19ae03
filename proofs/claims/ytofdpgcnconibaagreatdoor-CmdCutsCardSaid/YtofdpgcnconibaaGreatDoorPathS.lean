import Derived.Test.YtofdpgcnconibaaGreatDoorPAx5
import Derived.Test.YtofdpgcnconibaaGreatDoorPAx6
import Derived.Test.YtofdpgcnconibaaGreatDoorPathG
/-! Paths: the program's Split. -/
set_option linter.unusedVariables false
set_option linter.unusedSimpArgs false
namespace Go.Proofs.YtofdpgcnconibaaGreatDoor.PathP
open Go.RowKit Go.Proofs.YtofdpgcnconibaaGreatDoor.PA Go.Proofs.YtofdpgcnconibaaGreatDoorW.PrintWords Go.Proofs.YtofdpgcnconibaaGreatDoorW.PrintLast Go.Proofs.YtofdpgcnconibaaGreatDoorW.PrintMore
open Go.Proofs.YtofdpgcnconibaaGreatDoor.Plain
abbrev slash : ByteArray := ⟨#[47]⟩
theorem index_slash (s : ByteArray) : strings_Index.f s slash = some (Lib.indexByte s.data.toList 47) := rfl
theorem count_slash (s : ByteArray) : strings_Count.f s slash = some ((s.data.toList.count 47 : Nat) : Int) := rfl
theorem set_end {α : Type} (pre : List α) (z x : α) (m : Nat) : (pre ++ List.replicate (m + 1) z).set pre.length x = (pre ++ [x]) ++ List.replicate m z := by
  rw [List.set_append_right _ _ (Nat.le_refl _), Nat.sub_self, List.replicate_succ, List.set_cons_zero, List.append_assoc]; rfl
theorem wrap_slash (a : Nat) (h : a < 4611686018427387904) : wrap64 ((a : Int) + ((slash.size : Nat) : Int)) = ((a + 1 : Nat) : Int) := wrapn h
theorem wrap_zero (a : Nat) (h : a < 4611686018427387904) : wrap64 ((a : Int) + 0) = (a : Int) := by rw [wrap_in (by omega) (by omega)]; omega
theorem genSplit_l0 (n : Int) : ∀ (c k : Nat) (s : ByteArray) (pre : List ByteArray), s.data.toList.count 47 = c → c < k → n = pre.length + c → s.size ≤ 1000000 → pre.length + c ≤ 1000000 →
    strings_genSplit.l0 k s slash 0 n (pre ++ List.replicate (c + 1) (⟨#[]⟩ : ByteArray)) (pre.length : Int) = some (pre ++ cutS s) := by
  intro c
  induction c with
  | zero =>
    intro k s pre hc hk hn hs hp
    obtain ⟨k, rfl⟩ : ∃ q, k = q + 1 := ⟨k - 1, by omega⟩
    have hfree : 47 ∉ s.data.toList := List.count_eq_zero.1 hc
    have hcut : cutS s = [s] := by
      unfold cutS
      rw [cutFrom_free _ _ hfree, ofL_toList, empty_append]
    simp only [strings_genSplit.l0]
    rw [if_neg (by omega), if_pos (by omega), if_pos (by rw [List.length_append, List.length_replicate]; omega), wrapn (by omega), if_pos (by omega), if_pos (by rw [List.length_append, List.length_replicate]; omega)]
    rw [Int.toNat_natCast, Int.toNat_natCast, set_end, hcut, List.replicate_zero, List.append_nil, List.take_of_length_le (by simp)]
  | succ c ih =>
    intro k s pre hc hk hn hs hp
    obtain ⟨k, rfl⟩ : ∃ q, k = q + 1 := ⟨k - 1, by omega⟩
    rcases first_slash s.data.toList with ⟨h1, _⟩ | ⟨a, b, h1, h2, h3⟩
    · exact absurd (List.count_eq_zero.2 h1) (by omega)
    · have hl : a.length + b.length + 1 = s.size := by rw [← lenL s, h1]; simp; omega
      have hcb : b.count 47 = c := by
        rw [h1, List.count_append, List.count_cons_self, List.count_eq_zero.2 h2] at hc; omega
      simp only [strings_genSplit.l0]
      rw [if_pos (by omega), index_slash, Option.bind_some, h3, if_neg (by omega)]
      have ha : a.length < 4611686018427387904 := by omega
      rw [wrap_zero a.length ha, wrap_slash a.length ha, if_pos (by omega), if_pos (by omega), if_pos (by omega), if_pos (by rw [List.length_append, List.length_replicate]; omega), if_pos (by omega), if_pos (by omega)]
      rw [Int.toNat_natCast, Int.toNat_natCast, Int.toNat_natCast, wrapn (by omega), set_end]
      have h4 : s.data.toList = (a ++ [47]) ++ b := by rw [h1]; simp
      have e3 : s.extract (a.length + 1) s.size = ofL b := by
        have := extract_tail s (a ++ [47]) b h4
        rw [List.length_append] at this
        exact this
      rw [e3, extract_head s a (47 :: b) h1]
      have := ih k (ofL b) (pre ++ [ofL a]) (by rw [toList_ofL]; exact hcb) (by omega) (by rw [List.length_append]; simp only [List.length_cons, List.length_nil]; omega) (by show b.toArray.size ≤ _; simp; omega) (by rw [List.length_append]; simp only [List.length_cons, List.length_nil]; omega)
      rw [List.length_append] at this
      rw [show ((pre.length + 1 : Nat) : Int) = ((pre.length + [ofL a].length : Nat) : Int) from rfl, this]
      unfold cutS
      rw [toList_ofL, h1, cutFrom_sep _ _ _ h2, empty_append]
      simp
theorem split_f (s : ByteArray) (hs : s.size ≤ 1000000) (k : Nat) (hk : s.size + 5 ≤ k) : strings_Split.f k s slash = some (cutS s) := by
  obtain ⟨k, rfl⟩ : ∃ q, k = q + 1 := ⟨k - 1, by omega⟩
  have hc : s.data.toList.count 47 ≤ s.size := by rw [← lenL]; exact List.count_le_length
  unfold strings_Split.f strings_genSplit.f
  rw [if_neg (by decide), if_neg (by rw [nil_iff]; decide), if_pos (by decide), count_slash, Option.bind_some]
  have e0 : wrap64 (((s.data.toList.count 47 : Nat) : Int) + 1) = ((s.data.toList.count 47 + 1 : Nat) : Int) := wrapn (by omega)
  rw [e0]
  simp only [strings_genSplit.j0]
  have e1 : wrap64 ((s.size : Int) + 1) = ((s.size + 1 : Nat) : Int) := wrapn (by omega)
  have e2 : mn (((s.data.toList.count 47 + 1 : Nat) : Int)) ((s.size + 1 : Nat) : Int) = ((s.data.toList.count 47 + 1 : Nat) : Int) := by unfold mn; omega
  rw [e1, e2, if_pos (by omega), Int.toNat_natCast, if_pos (by omega)]
  have e3 : wrap64 (((s.data.toList.count 47 + 1 : Nat) : Int) - 1) = ((s.data.toList.count 47 : Nat) : Int) := by rw [wrap_in (by omega) (by omega)]; omega
  rw [e3]
  have := genSplit_l0 ((s.data.toList.count 47 : Nat) : Int) (s.data.toList.count 47) k s [] rfl (by omega) (by simp only [List.length_nil]; omega) hs (by simp only [List.length_nil]; omega)
  rw [List.nil_append, List.nil_append] at this
  have h0 : ((([] : List ByteArray).length : Nat) : Int) = 0 := rfl
  rw [h0] at this
  rw [this, Option.bind_some]
theorem cutPrefix_slash (s : ByteArray) : strings_CutPrefix.f s slash = some (if s.data.toList.head? = some 47 then (ofL s.data.toList.tail, true) else (s, false)) := by
  unfold strings_CutPrefix.f stringslite_CutPrefix.f stringslite_HasPrefix.f
  have h1 : ((slash.size : Nat) : Int) = 1 := rfl
  rw [h1]
  rcases hd : s.data.toList with _ | ⟨c, l⟩
  · have hz : s.size = 0 := by rw [← lenL, hd]; rfl
    rw [if_neg (by omega), Option.bind_some, if_neg (by decide), Option.bind_some, if_neg (by simp)]
  · have hz : s.size = l.length + 1 := by rw [← lenL, hd]; rfl
    rw [if_pos (by omega), if_pos (by omega), if_pos (by omega), Option.bind_some]
    have e : s.extract 0 (1 : Int).toNat = ofL [c] := by
      have := extract_head s [c] l (by rw [hd]; rfl)
      exact this
    have e2 : s.extract (1 : Int).toNat s.size = ofL l := by
      have := extract_tail s [c] l (by rw [hd]; rfl)
      exact this
    rw [e, ByteArray.toList_eq, ByteArray.toList_eq, toList_ofL]
    by_cases hc : c = 47
    · subst hc
      rw [if_pos (by rfl), if_pos (by omega), if_pos (by omega), Option.bind_some, e2, if_pos (by rfl)]
      rfl
    · rw [if_neg (by simp [hc]), Option.bind_some, if_neg (by simp [hc])]
theorem index_names (l : List ByteArray) (hl : l.length ≤ 1000000) : ∀ (m k i : Nat), l.length = i + m → m < k →
    ∃ r, slices_IndexFunc_string_path_names_1.l0 k l (l.length : Int) (i : Int) = some r ∧ (0 ≤ r ↔ (l.drop i).all nameB = false)
  | 0, k, i, hz, hk => by
    obtain ⟨k, rfl⟩ : ∃ q, k = q + 1 := ⟨k - 1, by omega⟩
    refine ⟨-1, ?_, ?_⟩
    · simp only [slices_IndexFunc_string_path_names_1.l0]; rw [if_neg (by omega)]
    · rw [List.drop_of_length_le (by omega)]; simp
  | m + 1, k, i, hz, hk => by
    obtain ⟨k, rfl⟩ : ∃ q, k = q + 1 := ⟨k - 1, by omega⟩
    simp only [slices_IndexFunc_string_path_names_1.l0]
    rw [if_pos (by omega), if_pos (by omega), if_pos (by omega)]
    unfold path_names_1.f
    rw [name_f, Option.bind_some, Option.bind_some, drop_rd l i (by omega)]
    cases hn : nameB (rdOf ByteArray.empty l (i : Int)) with
    | true =>
      obtain ⟨r, h1, h2⟩ := index_names l hl m k (i + 1) (by omega) (by omega)
      refine ⟨r, ?_, ?_⟩
      · rw [if_neg (by decide), wrapn (by omega), h1]
      · rw [h2, List.all_cons, hn, Bool.true_and]
    | false =>
      refine ⟨i, by rw [if_pos (by rfl)], ?_⟩
      rw [List.all_cons, hn]
      simp
theorem contains_names (l : List ByteArray) (hl : l.length ≤ 1000000) (k : Nat) (hk : l.length < k) : slices_ContainsFunc_string_path_names_1.f k l = some (!l.all nameB) := by
  unfold slices_ContainsFunc_string_path_names_1.f slices_IndexFunc_string_path_names_1.f
  obtain ⟨r, h1, h2⟩ := index_names l hl l.length k 0 (by omega) hk
  rw [show (0 : Int) = ((0 : Nat) : Int) from rfl, h1, Option.bind_some]
  rw [List.drop_zero] at h2
  congr 1
  cases ha : l.all nameB with
  | true => rw [ha] at h2; exact decide_eq_false (fun h => by have := h2.1 h; cases this)
  | false => exact decide_eq_true (h2.2 ha)
/-- What Split answers. -/
def splitR (s : ByteArray) : List ByteArray × Int := pathNames nameB 1023 s
theorem cut_sizes (l : List UInt8) : ∀ (one : ByteArray), ∀ x ∈ cutFrom one l, x.size ≤ one.size + l.length := by
  induction l with
  | nil => intro one x hx; simp only [cutFrom, List.mem_singleton] at hx; subst hx; omega
  | cons c l ih =>
    intro one x hx
    simp only [cutFrom] at hx
    rw [List.length_cons]
    split at hx
    · rcases List.mem_cons.1 hx with rfl | h
      · omega
      · have := ih _ x h
        have hz : (⟨#[]⟩ : ByteArray).size = 0 := rfl
        omega
    · have := ih _ x hx
      rw [ByteArray.size_append] at this
      have hz : (⟨#[c]⟩ : ByteArray).size = 1 := rfl
      omega
theorem cutS_sizes (s : ByteArray) : ∀ x ∈ cutS s, x.size ≤ s.size := by
  intro x hx
  have := cut_sizes s.data.toList ⟨#[]⟩ x hx
  rw [lenL] at this
  have hz : (⟨#[]⟩ : ByteArray).size = 0 := rfl
  omega
theorem pathNames_all (most : Nat) (s : ByteArray) : pathNames nameB most s = if s = ofL [47] then ([], 0) else if s.data.toList.head? = some 47 ∧ s.size ≤ most then
    if (cutS (ofL s.data.toList.tail)).length ≤ 32 ∧ (cutS (ofL s.data.toList.tail)).all nameB = true then (cutS (ofL s.data.toList.tail), 0) else ([], 120) else ([], 120) := by
  unfold pathNames
  obtain ⟨x, r, hx⟩ := cutS_ne (ofL s.data.toList.tail)
  rw [hx]
  simp only [List.head?_cons, Option.any_some, List.tail_cons, List.all_cons, Bool.and_eq_true]
  repeat' split
  all_goals first | rfl | simp_all
end Go.Proofs.YtofdpgcnconibaaGreatDoor.PathP
