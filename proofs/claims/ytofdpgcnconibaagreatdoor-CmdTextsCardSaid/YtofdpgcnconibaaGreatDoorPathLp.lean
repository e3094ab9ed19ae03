-- WRITTEN BY a program of this session (mergeset.py): several texts as one
import Derived.Test.YtofdpgcnconibaaGreatDoorPAx3
import Derived.Test.YtofdpgcnconibaaGreatDoorSim
import Derived.Lib.IndexAny
import Derived.Test.YtofdpgcnconibaaGreatDoorPAx5
import Derived.Test.YtofdpgcnconibaaGreatDoorPAx6
import Derived.Test.YtofdpgcnconibaaGreatDoorPAx7
import Derived.Test.YtofdpgcnconibaaGreatDoorPAx18
import Derived.Test.YtofdpgcnconibaaGreatDoorPAx4
import Derived.Lib.AtoiTie
import Derived.Lib.ItoaMem
set_option linter.unusedVariables false
set_option linter.unusedSimpArgs false
/-! Names and paths: what stands between slashes, plain. -/
set_option linter.unusedVariables false
set_option linter.unusedSimpArgs false
namespace Go.Proofs.YtofdpgcnconibaaGreatDoor.PathP
open Go.RowKit Go.Proofs.YtofdpgcnconibaaGreatDoor.PA Go.Proofs.YtofdpgcnconibaaGreatDoorW.PrintWords Go.Proofs.YtofdpgcnconibaaGreatDoorW.PrintLast Go.Proofs.YtofdpgcnconibaaGreatDoorW.PrintMore
open Go.Proofs.YtofdpgcnconibaaGreatDoor.Plain
theorem wrapn {j : Nat} (h : j < 4611686018427387904) : wrap64 ((j : Int) + 1) = ((j + 1 : Nat) : Int) := by rw [wrap_in (by omega) (by omega)]; omega
theorem lenL (s : ByteArray) : s.data.toList.length = s.size := Array.length_toList
/-- What stands between slashes; 'one': what was met of the first. -/
def cutFrom : ByteArray → List UInt8 → List ByteArray
  | one, [] => [one]
  | one, c :: l => if c = 47 then one :: cutFrom ⟨#[]⟩ l else cutFrom (one ++ ⟨#[c]⟩) l
def cutS (s : ByteArray) : List ByteArray := cutFrom ⟨#[]⟩ s.data.toList
def ofL (l : List UInt8) : ByteArray := ⟨l.toArray⟩
theorem ofL_toList (s : ByteArray) : ofL s.data.toList = s := by cases s; simp [ofL]
theorem toList_ofL (l : List UInt8) : (ofL l).data.toList = l := rfl
theorem ext_list {x y : ByteArray} (h : x.data.toList = y.data.toList) : x = y := by
  rw [← ofL_toList x, ← ofL_toList y, h]
theorem append_list (x y : ByteArray) : (x ++ y).data.toList = x.data.toList ++ y.data.toList := by
  rw [ByteArray.data_append, Array.toList_append]
theorem cutFrom_free (one : ByteArray) (a : List UInt8) (h : 47 ∉ a) : cutFrom one a = [one ++ ofL a] := by
  induction a generalizing one with
  | nil => simp only [cutFrom]; congr 1; apply ext_list; rw [append_list]; simp [ofL]
  | cons c a ih =>
    have hc : c ≠ 47 := fun e => h (by rw [e]; exact List.mem_cons_self ..)
    simp only [cutFrom]
    rw [if_neg hc, ih _ (fun hm => h (List.mem_cons_of_mem _ hm))]
    congr 1
    apply ext_list
    rw [append_list, append_list, append_list, toList_ofL, toList_ofL]
    simp
theorem cutFrom_sep (one : ByteArray) (a b : List UInt8) (h : 47 ∉ a) : cutFrom one (a ++ 47 :: b) = (one ++ ofL a) :: cutFrom ⟨#[]⟩ b := by
  induction a generalizing one with
  | nil =>
    simp only [List.nil_append, cutFrom, if_true]; congr 1; apply ext_list; rw [append_list]; simp [ofL]
  | cons c a ih =>
    have hc : c ≠ 47 := fun e => h (by rw [e]; exact List.mem_cons_self ..)
    simp only [List.cons_append, cutFrom]
    rw [if_neg hc, ih _ (fun hm => h (List.mem_cons_of_mem _ hm))]
    congr 1
    apply ext_list
    rw [append_list, append_list, append_list, toList_ofL, toList_ofL]
    simp
theorem empty_append (x : ByteArray) : (⟨#[]⟩ : ByteArray) ++ x = x := by apply ext_list; rw [append_list]; rfl
theorem append_empty (x : ByteArray) : x ++ (⟨#[]⟩ : ByteArray) = x := by apply ext_list; rw [append_list]; simp
theorem cutFrom_len (l : List UInt8) : ∀ one : ByteArray, (cutFrom one l).length = l.count 47 + 1 := by
  induction l with
  | nil => intro one; rfl
  | cons c l ih =>
    intro one
    simp only [cutFrom]
    split
    · next h => subst h; rw [List.length_cons, ih, List.count_cons_self]
    · next h => rw [ih, List.count_cons_of_ne h]
/-- The first slash. -/
theorem first_slash (l : List UInt8) : (47 ∉ l ∧ Lib.indexByte l 47 = -1) ∨ ∃ a b, l = a ++ 47 :: b ∧ 47 ∉ a ∧ Lib.indexByte l 47 = a.length := by
  induction l with
  | nil => exact .inl ⟨by simp, rfl⟩
  | cons c l ih =>
    by_cases hc : c = 47
    · subst hc
      exact .inr ⟨[], l, rfl, by simp, by simp [Lib.indexByte]⟩
    · have hb : (c == 47) = false := by simp [hc]
      rcases ih with ⟨h1, h2⟩ | ⟨a, b, h1, h2, h3⟩
      · refine .inl ⟨?_, ?_⟩
        · intro hm
          rcases List.mem_cons.1 hm with h | h
          · exact hc h.symm
          · exact h1 h
        · simp only [Lib.indexByte, hb, h2]; first | done | rfl
      · refine .inr ⟨c :: a, b, by rw [h1]; rfl, ?_, ?_⟩
        · intro hm
          rcases List.mem_cons.1 hm with h | h
          · exact hc h.symm
          · exact h2 h
        · simp only [Lib.indexByte, hb, h3, Bool.false_eq_true, if_false]
          rw [if_neg (by first | (simp; done) | (simp; omega))]
          first | done | simp
theorem extract_list (s : ByteArray) (i j : Nat) : (s.extract i j).data.toList = (s.data.toList.drop i).take (j - i) := by
  rw [ByteArray.data_extract, Array.toList_extract]
theorem extract_head (s : ByteArray) (a b : List UInt8) (h : s.data.toList = a ++ b) : s.extract 0 a.length = ofL a := by
  apply ext_list
  rw [extract_list, h, toList_ofL]
  simp
theorem extract_tail (s : ByteArray) (a b : List UInt8) (h : s.data.toList = a ++ b) : s.extract a.length s.size = ofL b := by
  apply ext_list
  rw [extract_list, toList_ofL, ← lenL s, h]
  simp
theorem bt_eq (s : ByteArray) (i : Nat) (h : i < s.size) (c : Nat) (hc : c < 256) : bt s (i : Int) = (c : Int) ↔ s[i]'h = UInt8.ofNat c := by
  rw [bt_nat s i h, ← UInt8.toNat_inj, UInt8.toNat_ofNat_of_lt' (by show _ < 256; omega)]
  omega
theorem dropL (s : ByteArray) (i : Nat) (h : i < s.size) : s.data.toList.drop i = s[i]'h :: s.data.toList.drop (i + 1) := by
  rw [List.drop_eq_getElem_cons (by rw [lenL]; exact h)]; rfl
theorem extract_one (s : ByteArray) (i : Nat) (h : i < s.size) : s.extract i (i + 1) = ⟨#[s[i]'h]⟩ := by
  apply ext_list
  rw [extract_list, dropL s i h]
  simp
theorem nil_iff (s : ByteArray) : s.toList = ([] : List UInt8) ↔ s.size = 0 := by
  rw [ByteArray.toList_eq, ← lenL]; exact List.length_eq_zero_iff.symm
theorem toList_iff (s : ByteArray) (l : List UInt8) : s.toList = l ↔ s = ofL l := by
  rw [ByteArray.toList_eq]
  constructor
  · intro h; rw [← h, ofL_toList]
  · intro h; rw [h, toList_ofL]
theorem rd_get (l : List ByteArray) (i : Nat) (h : i < l.length) : rdOf ByteArray.empty l (i : Int) = l[i]'h := by
  unfold rdOf
  rw [Int.toNat_natCast, List.getD_eq_getElem?_getD, List.getElem?_eq_getElem h]; rfl
theorem drop_rd (l : List ByteArray) (i : Nat) (h : i < l.length) : l.drop i = rdOf ByteArray.empty l (i : Int) :: l.drop (i + 1) := by
  rw [rd_get l i h, List.drop_eq_getElem_cons h]
/-- A name. -/
def nameB (s : ByteArray) : Bool := freeL s.data.toList && nameOk s
theorem name_f (s : ByteArray) : path_Name.f s = some (nameB s) := rfl
/-- The names of a path of at most so many bytes, whose first is let by by 'first'. -/
def pathNames (first : ByteArray → Bool) (most : Nat) (s : ByteArray) : List ByteArray × Int :=
  if s = ofL [47] then ([], 0) else
  if s.data.toList.head? = some 47 ∧ s.size ≤ most then
    if (cutS (ofL s.data.toList.tail)).length ≤ 32 ∧ (cutS (ofL s.data.toList.tail)).head?.any first = true ∧ (cutS (ofL s.data.toList.tail)).tail.all nameB = true then (cutS (ofL s.data.toList.tail), 0) else ([], 120)
  else ([], 120)
theorem cutS_ne (s : ByteArray) : ∃ x r, cutS s = x :: r := by
  have := cutFrom_len s.data.toList ⟨#[]⟩
  unfold cutS
  cases h : cutFrom ⟨#[]⟩ s.data.toList with
  | nil => rw [h] at this; simp at this
  | cons x r => exact ⟨x, r, rfl⟩
end Go.Proofs.YtofdpgcnconibaaGreatDoor.PathP
/-! Paths: the program's Split. -/
set_option linter.unusedVariables false
set_option linter.unusedSimpArgs false
namespace Go.Proofs.YtofdpgcnconibaaGreatDoor.PathP
open Go.RowKit Go.Proofs.YtofdpgcnconibaaGreatDoor.PA Go.Proofs.YtofdpgcnconibaaGreatDoorW.PrintWords Go.Proofs.YtofdpgcnconibaaGreatDoorW.PrintLast Go.Proofs.YtofdpgcnconibaaGreatDoorW.PrintMore
open Go.Proofs.YtofdpgcnconibaaGreatDoor.Plain
abbrev slash : ByteArray := ⟨#[47]⟩
theorem index_slash (s : ByteArray) : strings_Index.f s slash = some (Lib.indexByte s.data.toList 47) := rfl
theorem count_slash (s : ByteArray) : strings_Count.f s slash = some ((s.data.toList.count 47 : Nat) : Int) := rfl
theorem set_end {α : Type} (pre : List α) (z x : α) (m : Nat) : (pre ++ List.replicate (m + 1) z).set pre.length x = (pre ++ [x]) ++ List.replicate m z := by
  rw [List.set_append_right _ _ (Nat.le_refl _), Nat.sub_self, List.replicate_succ, List.set_cons_zero, List.append_assoc]; rfl
theorem wrap_slash (a : Nat) (h : a < 4611686018427387904) : wrap64 ((a : Int) + ((slash.size : Nat) : Int)) = ((a + 1 : Nat) : Int) := wrapn h
theorem wrap_zero (a : Nat) (h : a < 4611686018427387904) : wrap64 ((a : Int) + 0) = (a : Int) := by rw [wrap_in (by omega) (by omega)]; omega
theorem genSplit_l0 (n : Int) : ∀ (c k : Nat) (s : ByteArray) (pre : List ByteArray), s.data.toList.count 47 = c → c < k → n = pre.length + c → s.size ≤ 1000000 → pre.length + c ≤ 1000000 →
    strings_genSplit.l0 k s slash 0 n (pre ++ List.replicate (c + 1) (⟨#[]⟩ : ByteArray)) (pre.length : Int) = some (pre ++ cutS s) := by
  intro c
  induction c with
  | zero =>
    intro k s pre hc hk hn hs hp
    obtain ⟨k, rfl⟩ : ∃ q, k = q + 1 := ⟨k - 1, by omega⟩
    have hfree : 47 ∉ s.data.toList := List.count_eq_zero.1 hc
    have hcut : cutS s = [s] := by
      unfold cutS
      rw [cutFrom_free _ _ hfree, ofL_toList, empty_append]
    simp only [strings_genSplit.l0]
    rw [if_neg (by omega), if_pos (by omega), if_pos (by rw [List.length_append, List.length_replicate]; omega), wrapn (by omega), if_pos (by omega), if_pos (by rw [List.length_append, List.length_replicate]; omega)]
    rw [Int.toNat_natCast, Int.toNat_natCast, set_end, hcut, List.replicate_zero, List.append_nil, List.take_of_length_le (by simp)]
  | succ c ih =>
    intro k s pre hc hk hn hs hp
    obtain ⟨k, rfl⟩ : ∃ q, k = q + 1 := ⟨k - 1, by omega⟩
    rcases first_slash s.data.toList with ⟨h1, _⟩ | ⟨a, b, h1, h2, h3⟩
    · exact absurd (List.count_eq_zero.2 h1) (by omega)
    · have hl : a.length + b.length + 1 = s.size := by rw [← lenL s, h1]; simp; omega
      have hcb : b.count 47 = c := by
        rw [h1, List.count_append, List.count_cons_self, List.count_eq_zero.2 h2] at hc; omega
      simp only [strings_genSplit.l0]
      rw [if_pos (by omega), index_slash, Option.bind_some, h3, if_neg (by omega)]
      have ha : a.length < 4611686018427387904 := by omega
      rw [wrap_zero a.length ha, wrap_slash a.length ha, if_pos (by omega), if_pos (by omega), if_pos (by omega), if_pos (by rw [List.length_append, List.length_replicate]; omega), if_pos (by omega), if_pos (by omega)]
      rw [Int.toNat_natCast, Int.toNat_natCast, Int.toNat_natCast, wrapn (by omega), set_end]
      have h4 : s.data.toList = (a ++ [47]) ++ b := by rw [h1]; simp
      have e3 : s.extract (a.length + 1) s.size = ofL b := by
        have := extract_tail s (a ++ [47]) b h4
        rw [List.length_append] at this
        exact this
      rw [e3, extract_head s a (47 :: b) h1]
      have := ih k (ofL b) (pre ++ [ofL a]) (by rw [toList_ofL]; exact hcb) (by omega) (by rw [List.length_append]; simp only [List.length_cons, List.length_nil]; omega) (by show b.toArray.size ≤ _; simp; omega) (by rw [List.length_append]; simp only [List.length_cons, List.length_nil]; omega)
      rw [List.length_append] at this
      rw [show ((pre.length + 1 : Nat) : Int) = ((pre.length + [ofL a].length : Nat) : Int) from rfl, this]
      unfold cutS
      rw [toList_ofL, h1, cutFrom_sep _ _ _ h2, empty_append]
      simp
theorem split_f (s : ByteArray) (hs : s.size ≤ 1000000) (k : Nat) (hk : s.size + 5 ≤ k) : strings_Split.f k s slash = some (cutS s) := by
  obtain ⟨k, rfl⟩ : ∃ q, k = q + 1 := ⟨k - 1, by omega⟩
  have hc : s.data.toList.count 47 ≤ s.size := by rw [← lenL]; exact List.count_le_length
  unfold strings_Split.f strings_genSplit.f
  rw [if_neg (by decide), if_neg (by rw [nil_iff]; decide), if_pos (by decide), count_slash, Option.bind_some]
  have e0 : wrap64 (((s.data.toList.count 47 : Nat) : Int) + 1) = ((s.data.toList.count 47 + 1 : Nat) : Int) := wrapn (by omega)
  rw [e0]
  simp only [strings_genSplit.j0]
  have e1 : wrap64 ((s.size : Int) + 1) = ((s.size + 1 : Nat) : Int) := wrapn (by omega)
  have e2 : mn (((s.data.toList.count 47 + 1 : Nat) : Int)) ((s.size + 1 : Nat) : Int) = ((s.data.toList.count 47 + 1 : Nat) : Int) := by unfold mn; omega
  rw [e1, e2, if_pos (by omega), Int.toNat_natCast, if_pos (by omega)]
  have e3 : wrap64 (((s.data.toList.count 47 + 1 : Nat) : Int) - 1) = ((s.data.toList.count 47 : Nat) : Int) := by rw [wrap_in (by omega) (by omega)]; omega
  rw [e3]
  have := genSplit_l0 ((s.data.toList.count 47 : Nat) : Int) (s.data.toList.count 47) k s [] rfl (by omega) (by simp only [List.length_nil]; omega) hs (by simp only [List.length_nil]; omega)
  rw [List.nil_append, List.nil_append] at this
  have h0 : ((([] : List ByteArray).length : Nat) : Int) = 0 := rfl
  rw [h0] at this
  rw [this, Option.bind_some]
theorem cutPrefix_slash (s : ByteArray) : strings_CutPrefix.f s slash = some (if s.data.toList.head? = some 47 then (ofL s.data.toList.tail, true) else (s, false)) := by
  unfold strings_CutPrefix.f stringslite_CutPrefix.f stringslite_HasPrefix.f
  have h1 : ((slash.size : Nat) : Int) = 1 := rfl
  rw [h1]
  rcases hd : s.data.toList with _ | ⟨c, l⟩
  · have hz : s.size = 0 := by rw [← lenL, hd]; rfl
    rw [if_neg (by omega), Option.bind_some, if_neg (by decide), Option.bind_some, if_neg (by simp)]
  · have hz : s.size = l.length + 1 := by rw [← lenL, hd]; rfl
    rw [if_pos (by omega), if_pos (by omega), if_pos (by omega), Option.bind_some]
    have e : s.extract 0 (1 : Int).toNat = ofL [c] := by
      have := extract_head s [c] l (by rw [hd]; rfl)
      exact this
    have e2 : s.extract (1 : Int).toNat s.size = ofL l := by
      have := extract_tail s [c] l (by rw [hd]; rfl)
      exact this
    rw [e, ByteArray.toList_eq, ByteArray.toList_eq, toList_ofL]
    by_cases hc : c = 47
    · subst hc
      rw [if_pos (by rfl), if_pos (by omega), if_pos (by omega), Option.bind_some, e2, if_pos (by rfl)]
      rfl
    · rw [if_neg (by simp [hc]), Option.bind_some, if_neg (by simp [hc])]
theorem index_names (l : List ByteArray) (hl : l.length ≤ 1000000) : ∀ (m k i : Nat), l.length = i + m → m < k →
    ∃ r, slices_IndexFunc_string_path_names_1.l0 k l (l.length : Int) (i : Int) = some r ∧ (0 ≤ r ↔ (l.drop i).all nameB = false)
  | 0, k, i, hz, hk => by
    obtain ⟨k, rfl⟩ : ∃ q, k = q + 1 := ⟨k - 1, by omega⟩
    refine ⟨-1, ?_, ?_⟩
    · simp only [slices_IndexFunc_string_path_names_1.l0]; rw [if_neg (by omega)]
    · rw [List.drop_of_length_le (by omega)]; simp
  | m + 1, k, i, hz, hk => by
    obtain ⟨k, rfl⟩ : ∃ q, k = q + 1 := ⟨k - 1, by omega⟩
    simp only [slices_IndexFunc_string_path_names_1.l0]
    rw [if_pos (by omega), if_pos (by omega), if_pos (by omega)]
    unfold path_names_1.f
    rw [name_f, Option.bind_some, Option.bind_some, drop_rd l i (by omega)]
    cases hn : nameB (rdOf ByteArray.empty l (i : Int)) with
    | true =>
      obtain ⟨r, h1, h2⟩ := index_names l hl m k (i + 1) (by omega) (by omega)
      refine ⟨r, ?_, ?_⟩
      · rw [if_neg (by decide), wrapn (by omega), h1]
      · rw [h2, List.all_cons, hn, Bool.true_and]
    | false =>
      refine ⟨i, by rw [if_pos (by rfl)], ?_⟩
      rw [List.all_cons, hn]
      simp
theorem contains_names (l : List ByteArray) (hl : l.length ≤ 1000000) (k : Nat) (hk : l.length < k) : slices_ContainsFunc_string_path_names_1.f k l = some (!l.all nameB) := by
  unfold slices_ContainsFunc_string_path_names_1.f slices_IndexFunc_string_path_names_1.f
  obtain ⟨r, h1, h2⟩ := index_names l hl l.length k 0 (by omega) hk
  rw [show (0 : Int) = ((0 : Nat) : Int) from rfl, h1, Option.bind_some]
  rw [List.drop_zero] at h2
  congr 1
  cases ha : l.all nameB with
  | true => rw [ha] at h2; exact decide_eq_false (fun h => by have := h2.1 h; cases this)
  | false => exact decide_eq_true (h2.2 ha)
/-- What Split answers. -/
def splitR (s : ByteArray) : List ByteArray × Int := pathNames nameB 1023 s
theorem cut_sizes (l : List UInt8) : ∀ (one : ByteArray), ∀ x ∈ cutFrom one l, x.size ≤ one.size + l.length := by
  induction l with
  | nil => intro one x hx; simp only [cutFrom, List.mem_singleton] at hx; subst hx; omega
  | cons c l ih =>
    intro one x hx
    simp only [cutFrom] at hx
    rw [List.length_cons]
    split at hx
    · rcases List.mem_cons.1 hx with rfl | h
      · omega
      · have := ih _ x h
        have hz : (⟨#[]⟩ : ByteArray).size = 0 := rfl
        omega
    · have := ih _ x hx
      rw [ByteArray.size_append] at this
      have hz : (⟨#[c]⟩ : ByteArray).size = 1 := rfl
      omega
theorem cutS_sizes (s : ByteArray) : ∀ x ∈ cutS s, x.size ≤ s.size := by
  intro x hx
  have := cut_sizes s.data.toList ⟨#[]⟩ x hx
  rw [lenL] at this
  have hz : (⟨#[]⟩ : ByteArray).size = 0 := rfl
  omega
end Go.Proofs.YtofdpgcnconibaaGreatDoor.PathP
/-! Paths: the program's Loose. -/
set_option linter.unusedVariables false
set_option linter.unusedSimpArgs false
namespace Go.Proofs.YtofdpgcnconibaaGreatDoor.PathP
open Go.RowKit Go.Proofs.YtofdpgcnconibaaGreatDoor.PA Go.Proofs.YtofdpgcnconibaaGreatDoorW.PrintWords Go.Proofs.YtofdpgcnconibaaGreatDoorW.PrintLast Go.Proofs.YtofdpgcnconibaaGreatDoorW.PrintMore
open Go.Proofs.YtofdpgcnconibaaGreatDoor.Plain
/-- What may be a loose path's first name. -/
def looseB (s : ByteArray) : Bool := (orphanV s).2 || nameB s
theorem porph_f (s : ByteArray) (hs : s.size ≤ 1000000) : path_OrphanOf.f s = some (orphanV s) := if_pos (by omega)
theorem loosely_f (s : ByteArray) (hs : s.size ≤ 1000000) : path_loosely.f s = some (looseB s) := by
  unfold path_loosely.f looseB
  rw [porph_f s hs, Option.bind_some, name_f, Option.bind_some]
  cases (orphanV s).2 with
  | true => rfl
  | false => rfl
theorem lnames_f (s : ByteArray) (most : Nat) (hs : s.size ≤ 1000000) (k : Nat) (hk : s.size + 10 ≤ k) : path_names_path_loosely.f k s (most : Int) = some (pathNames looseB most s) := by
  obtain ⟨k, rfl⟩ : ∃ q, k = q + 1 := ⟨k - 1, by omega⟩
  unfold path_names_path_loosely.f pathNames
  by_cases h0 : s = ofL [47]
  · rw [if_pos ((toList_iff _ _).2 h0), if_pos h0]
  · rw [if_neg (fun h => h0 ((toList_iff _ _).1 h)), if_neg h0, cutPrefix_slash, Option.bind_some]
    by_cases hh : s.data.toList.head? = some 47
    · rw [if_pos hh]
      simp only [if_true]
      by_cases hm : s.size ≤ most
      · rw [if_pos ⟨hh, hm⟩, decide_eq_false (by omega)]
        simp only [path_names_path_loosely.j0]
        have hz : (ofL s.data.toList.tail).size ≤ s.size := by
          show s.data.toList.tail.toArray.size ≤ _
          rw [List.size_toArray, List.length_tail, lenL]; omega
        have hlen : (cutS (ofL s.data.toList.tail)).length ≤ s.size + 1 := by
          unfold cutS
          rw [cutFrom_len, toList_ofL]
          have := List.count_le_length (a := (47 : UInt8)) (l := s.data.toList.tail)
          rw [List.length_tail, lenL] at this
          omega
        rw [if_neg (by decide), split_f _ (by omega) k (by omega), Option.bind_some]
        generalize hcut : cutS (ofL s.data.toList.tail) = l at *
        obtain ⟨x, r, hx⟩ := cutS_ne (ofL s.data.toList.tail)
        rw [hcut] at hx
        subst hx
        by_cases h32 : (x :: r).length ≤ 32
        · rw [if_neg (by omega), if_pos (by simp only [List.length_cons]; omega)]
          have hrd : rdOf ByteArray.empty (x :: r) 0 = x := rfl
          rw [hrd, loosely_f x (by have := cutS_sizes (ofL s.data.toList.tail) x (by rw [hcut]; exact List.mem_cons_self ..); omega), Option.bind_some]
          cases hxn : looseB x with
          | false => rw [if_neg (by decide), if_neg (by rintro ⟨_, h, _⟩; simp [hxn] at h)]
          | true =>
            rw [if_pos rfl, if_pos (by simp only [List.length_cons]; omega), List.drop_one, List.tail_cons]
            rw [contains_names r (by simp only [List.length_cons] at hlen; omega) k (by simp only [List.length_cons] at hlen; omega), Option.bind_some]
            cases hr : r.all nameB with
            | true => rw [if_neg (by decide), if_pos ⟨h32, by simp [hxn], by first | rfl | simpa using hr⟩]
            | false => rw [if_pos (by rfl), if_neg (by rintro ⟨_, _, h⟩; cases h)]
        · rw [if_pos (by omega), if_neg (by rintro ⟨h, _⟩; exact h32 h)]
      · rw [if_neg (by rintro ⟨_, h⟩; exact hm h), decide_eq_true (by omega)]
        simp only [path_names_path_loosely.j0]
        first | rw [if_pos rfl] | rw [if_pos trivial] | rfl
    · rw [if_neg (fun h : s.data.toList.head? = some 47 ∧ s.size ≤ most => hh h.1), if_neg hh]
      show path_names_path_loosely.j0 (k + 1) s true = _
      simp only [path_names_path_loosely.j0]
      first | done | rfl | rw [if_pos rfl] | rw [if_pos trivial]
/-- What Loose answers. -/
def looseR (s : ByteArray) : List ByteArray × Int := pathNames looseB 1037 s
theorem ploose_f (s : ByteArray) (hs : s.size ≤ 1000000) (k : Nat) (hk : s.size + 10 ≤ k) : path_Loose.f k s = some (looseR s) := by
  unfold path_Loose.f
  rw [show (1037 : Int) = ((1037 : Nat) : Int) from rfl, lnames_f s 1037 hs k hk, Option.bind_some]
  rfl
end Go.Proofs.YtofdpgcnconibaaGreatDoor.PathP
/-! Paths: the document's names, what it cuts, its Split. -/
set_option linter.unusedVariables false
set_option linter.unusedSimpArgs false
namespace Go.Proofs.YtofdpgcnconibaaGreatDoor.PathP
open Go.RowKit Go.Proofs.YtofdpgcnconibaaGreatDoor.PA Go.Proofs.YtofdpgcnconibaaGreatDoorW.PrintWords Go.Proofs.YtofdpgcnconibaaGreatDoorW.PrintLast Go.Proofs.YtofdpgcnconibaaGreatDoorW.PrintMore
open Go.Proofs.YtofdpgcnconibaaGreatDoor.Plain
theorem rname_l0 (s : ByteArray) (hs : s.size ≤ 1000000) : ∀ (m k i : Nat), s.size = i + m → m < k → coppiceref12_Name.l0 k s (i : Int) = some (freeL (s.data.toList.drop i))
  | 0, k, i, hz, hk => by
    obtain ⟨k, rfl⟩ : ∃ q, k = q + 1 := ⟨k - 1, by omega⟩
    simp only [coppiceref12_Name.l0]
    rw [if_neg (by omega), List.drop_of_length_le (by rw [lenL]; omega)]
    rfl
  | m + 1, k, i, hz, hk => by
    obtain ⟨k, rfl⟩ : ∃ q, k = q + 1 := ⟨k - 1, by omega⟩
    have hi : i < s.size := by omega
    simp only [coppiceref12_Name.l0]
    rw [if_pos (by omega), if_pos (by omega), dropL s i hi]
    have h1 : bt s (i : Int) = 47 ↔ s[i]'hi = 47 := bt_eq s i hi 47 (by decide)
    have h2 : bt s (i : Int) = 0 ↔ s[i]'hi = 0 := bt_eq s i hi 0 (by decide)
    have ih := rname_l0 s hs m k (i + 1) (by omega) (by omega)
    generalize s[i]'hi = c at *
    by_cases c47 : c = 47
    · rw [if_pos (h1.2 c47), c47]; rfl
    · rw [if_neg (fun h => c47 (h1.1 h))]
      by_cases c0 : c = 0
      · rw [if_pos (h2.2 c0), c0]; rfl
      · rw [if_neg (fun h => c0 (h2.1 h)), wrapn (by omega), ih]
        unfold freeL
        rw [List.all_cons]
        have e1 : (c != 47) = true := by simp [c47]
        have e2 : (c != 0) = true := by simp [c0]
        rw [e1, e2]; rfl
theorem rname_f (s : ByteArray) (hs : s.size ≤ 1000000) (k : Nat) (hk : s.size + 3 ≤ k) : coppiceref12_Name.f k s = some (nameB s) := by
  obtain ⟨k, rfl⟩ : ∃ q, k = q + 1 := ⟨k - 1, by omega⟩
  unfold coppiceref12_Name.f nameB nameOk
  by_cases h0 : s.toList = ([] : List UInt8)
  · rw [if_pos h0, h0]; simp [coppiceref12_Name.j0]
  · rw [if_neg h0]
    have e0 : s.toList.isEmpty = false := by simp [h0]
    by_cases h1 : (s.size : Int) > 255
    · rw [if_pos h1, decide_eq_false (by omega)]; simp [coppiceref12_Name.j0]
    · rw [if_neg h1, decide_eq_true (by omega)]
      by_cases h2 : s.toList = ([46] : List UInt8)
      · rw [if_pos h2, h2]; simp [coppiceref12_Name.j0]
      · have e2 : (s.toList == ([46] : List UInt8)) = false := by simp [h2]
        rw [if_neg h2, e0, e2]
        simp only [coppiceref12_Name.j0]
        cases h3 : s.toList == ([46, 46] : List UInt8) with
        | true => simp
        | false =>
          have := rname_l0 s hs s.size k 0 (by omega) (by omega)
          rw [List.drop_zero] at this
          rw [if_neg (by decide), show (0 : Int) = ((0 : Nat) : Int) from rfl, this]
          simp
theorem rcut_l0 (s : ByteArray) (hs : s.size ≤ 1000000) : ∀ (m k i : Nat) (acc : List ByteArray) (one : ByteArray), s.size = i + m → m < k → acc.length ≤ i → one.size ≤ i →
    coppiceref12_cut.l0 k s acc one (i : Int) = some (acc ++ cutFrom one (s.data.toList.drop i))
  | 0, k, i, acc, one, hz, hk, ha, ho => by
    obtain ⟨k, rfl⟩ : ∃ q, k = q + 1 := ⟨k - 1, by omega⟩
    simp only [coppiceref12_cut.l0]
    rw [if_neg (by omega), if_pos (by omega), List.drop_of_length_le (by rw [lenL]; omega)]
    rfl
  | m + 1, k, i, acc, one, hz, hk, ha, ho => by
    obtain ⟨k, rfl⟩ : ∃ q, k = q + 1 := ⟨k - 1, by omega⟩
    have hi : i < s.size := by omega
    simp only [coppiceref12_cut.l0]
    rw [if_pos (by omega), if_pos (by omega), wrapn (by omega), dropL s i hi]
    have h1 : bt s (i : Int) = 47 ↔ s[i]'hi = 47 := bt_eq s i hi 47 (by decide)
    by_cases c47 : s[i]'hi = 47
    · rw [if_pos (h1.2 c47), if_pos (by omega), rcut_l0 s hs m k (i + 1) _ _ (by omega) (by omega) (by rw [List.length_append]; simp only [List.length_cons, List.length_nil]; omega) (Nat.zero_le _)]
      simp only [cutFrom]
      rw [if_pos c47, List.append_assoc]; rfl
    · rw [if_neg (fun h => c47 (h1.1 h)), if_pos (by omega), if_pos (by omega), Int.toNat_natCast, Int.toNat_natCast, extract_one s i hi]
      have hz1 : (⟨#[s[i]'hi]⟩ : ByteArray).size = 1 := rfl
      rw [hz1, if_pos (by omega), rcut_l0 s hs m k (i + 1) _ _ (by omega) (by omega) (by omega) (by rw [ByteArray.size_append, hz1]; omega)]
      simp only [cutFrom]
      rw [if_neg c47]
theorem rcut_f (s : ByteArray) (hs : s.size ≤ 1000000) (k : Nat) (hk : s.size < k) : coppiceref12_cut.f k s = some (cutS s) := by
  have := rcut_l0 s hs s.size k 0 [] ⟨#[]⟩ (by omega) hk (Nat.le_refl _) (Nat.le_refl _)
  rw [List.drop_zero, List.nil_append] at this
  exact this
end Go.Proofs.YtofdpgcnconibaaGreatDoor.PathP
/-! Decimal numerals: there and back, plain. -/
set_option linter.unusedVariables false
set_option linter.unusedSimpArgs false
namespace Go.Proofs.YtofdpgcnconibaaGreatDoor.PathP
open Go.RowKit
def isDig (c : UInt8) : Prop := 48 ≤ c.toNat ∧ c.toNat ≤ 57
instance (c : UInt8) : Decidable (isDig c) := by unfold isDig; infer_instance
/-- The number that digits spell, behind others. -/
def val10 (acc : Nat) : List UInt8 → Nat
  | [] => acc
  | c :: r => val10 (acc * 10 + (c.toNat - 48)) r
theorem decFrom_cons (acc d : Nat) (c : UInt8) (l : List UInt8) (h : Lib.digitVal c = some d) : Lib.decFrom acc (c :: l) = Lib.decFrom (acc * 10 + d) l := by
  rw [Lib.decFrom, h]
theorem decFrom_val : ∀ (l : List UInt8) (acc : Nat), (∀ c ∈ l, isDig c) → Lib.decFrom acc l = some (val10 acc l)
  | [], acc, _ => rfl
  | c :: l, acc, h => by
    have hc : isDig c := h c (List.mem_cons_self ..)
    have hv : Lib.digitVal c = some (c.toNat - 48) := if_pos hc
    rw [decFrom_cons acc _ c l hv, decFrom_val l _ (fun d hd => h d (List.mem_cons_of_mem _ hd))]
    rfl
theorem val10_snoc (l : List UInt8) (c : UInt8) : ∀ acc, val10 acc (l ++ [c]) = val10 acc l * 10 + (c.toNat - 48) := by
  induction l with
  | nil => intro acc; rfl
  | cons d l ih => intro acc; exact ih _
theorem dec_digits (u : Nat) : (∀ c ∈ Lib.decDigits u, isDig c) ∧ val10 0 (Lib.decDigits u) = u ∧ Lib.decDigits u ≠ [] ∧ (1 ≤ u → (Lib.decDigits u).head? ≠ some 48) := by
  induction u using Nat.strongRecOn with
  | _ u ih =>
    rw [Lib.decDigits]
    split
    · next h =>
      have e : (UInt8.ofNat (48 + u)).toNat = 48 + u := UInt8.toNat_ofNat_of_lt' (by show _ < 256; omega)
      refine ⟨?_, ?_, by simp, ?_⟩
      · intro c hc
        rw [List.mem_singleton] at hc
        subst hc
        unfold isDig
        rw [e]; clear e; omega
      · show 0 * 10 + ((UInt8.ofNat (48 + u)).toNat - 48) = u
        rw [e]; clear e; omega
      · intro h1 h2
        have h3 : 48 + u = 48 := e.symm.trans (congrArg UInt8.toNat (Option.some.inj h2))
        clear h2 e
        omega
    · next h =>
      obtain ⟨h1, h2, h3, h4⟩ := ih (u / 10) (by omega)
      have e : (UInt8.ofNat (48 + u % 10)).toNat = 48 + u % 10 := UInt8.toNat_ofNat_of_lt' (by show _ < 256; omega)
      refine ⟨?_, ?_, by simp, ?_⟩
      · intro c hc
        rcases List.mem_append.1 hc with hc | hc
        · exact h1 c hc
        · rw [List.mem_singleton] at hc
          subst hc
          unfold isDig
          rw [e]; clear e; omega
      · rw [val10_snoc, h2, e]; clear e; omega
      · intro _
        have := h4 (by omega)
        rcases hd : Lib.decDigits (u / 10) with _ | ⟨a, r⟩
        · exact absurd hd h3
        · rw [hd] at this
          exact this
theorem dec_length (k : Nat) : ∀ u, u < 10 ^ (k + 1) → (Lib.decDigits u).length ≤ k + 1 := by
  induction k with
  | zero =>
    intro u h
    rw [Lib.decDigits, dif_pos (by simpa using h)]
    simp
  | succ k ih =>
    intro u h
    rw [Lib.decDigits]
    split
    · simp
    · rw [List.length_append]
      have := ih (u / 10) (by rw [Nat.pow_succ] at h; omega)
      simp only [List.length_cons, List.length_nil]
      omega
theorem dig_of (c : UInt8) (h : isDig c) : ∃ d : Nat, d < 10 ∧ c.toNat - 48 = d ∧ UInt8.ofNat (48 + d) = c ∧ (d = 0 → c = 48) := by
  have key : ∀ c : UInt8, isDig c → (c.toNat - 48 < 10 ∧ UInt8.ofNat (48 + (c.toNat - 48)) = c ∧ (c.toNat - 48 = 0 → c = 48)) := by
    intro c
    have : ∀ n : Fin 256, isDig (UInt8.ofNat n.val) → ((UInt8.ofNat n.val).toNat - 48 < 10 ∧ UInt8.ofNat (48 + ((UInt8.ofNat n.val).toNat - 48)) = UInt8.ofNat n.val ∧ ((UInt8.ofNat n.val).toNat - 48 = 0 → UInt8.ofNat n.val = 48)) := by decide +kernel
    have h := this ⟨c.toNat, c.toNat_lt⟩
    rw [show UInt8.ofNat (⟨c.toNat, c.toNat_lt⟩ : Fin 256).val = c from UInt8.ofNat_toNat] at h
    exact h
  obtain ⟨h1, h2, h3⟩ := key c h
  exact ⟨_, h1, rfl, h2, h3⟩
/-- Digits that don't begin with a zero are the numeral of what they spell. -/
theorem dec_back (n : Nat) : ∀ t : List UInt8, t.length = n → t ≠ [] → (∀ c ∈ t, isDig c) → t.head? ≠ some 48 → Lib.decDigits (val10 0 t) = t ∧ 1 ≤ val10 0 t := by
  induction n with
  | zero => intro t h h0; exact absurd (List.eq_nil_of_length_eq_zero h) h0
  | succ n ih =>
    intro t hl h0 hd hh
    obtain ⟨r, c, rfl⟩ : ∃ r c, t = r ++ [c] := ⟨t.dropLast, t.getLast h0, (List.dropLast_concat_getLast h0).symm⟩
    obtain ⟨d, hd1, hd2, hd3, hd4⟩ := dig_of c (hd c (by simp))
    have hl2 : r.length = n := by
      rw [List.length_append] at hl
      exact Nat.add_right_cancel hl
    rcases r with _ | ⟨a, r⟩
    · have hc0 : d ≠ 0 := fun e => hh (by rw [hd4 e]; rfl)
      have hv : val10 0 ([] ++ [c]) = d := by
        show 0 * 10 + (c.toNat - 48) = d
        rw [hd2, Nat.zero_mul, Nat.zero_add]
      rw [hv]
      clear hv hd2 hd4 hh hd
      refine ⟨?_, by omega⟩
      rw [Lib.decDigits, dif_pos (by omega), hd3]; rfl
    · obtain ⟨h1, h2⟩ := ih (a :: r) hl2 (by simp) (fun x hx => hd x (by rw [List.mem_append]; exact .inl hx)) hh
      rw [val10_snoc, hd2]
      generalize val10 0 (a :: r) = m at *
      clear hd2 hd4 hh hd ih
      refine ⟨?_, by omega⟩
      have e1 : (m * 10 + d) / 10 = m := by omega
      have e2 : (m * 10 + d) % 10 = d := by omega
      rw [Lib.decDigits, dif_neg (by omega), e1, e2, h1, hd3]
theorem itoa_nat (u : Nat) : Lib.itoa (u : Int) = Lib.decDigits u := Lib.itoa_nonneg u
theorem atoi_digits (t : List UInt8) (hl : t.length ≤ 18) (h0 : t ≠ []) (hd : ∀ c ∈ t, isDig c) : Lib.atoiAll t = .ok (val10 0 t : Int) := by
  rw [Lib.atoiAll_short t hl]
  rcases t with _ | ⟨c, r⟩
  · exact absurd rfl h0
  · have hc := hd c (List.mem_cons_self ..)
    unfold isDig at hc
    have c1 : (c == 45) = false := by rw [beq_eq_false_iff_ne]; intro e; rw [e] at hc; exact absurd hc.1 (by decide)
    have c2 : (c == 43) = false := by rw [beq_eq_false_iff_ne]; intro e; rw [e] at hc; exact absurd hc.1 (by decide)
    have hdn : Lib.decNat (c :: r) = some (val10 0 (c :: r)) := by
      unfold Lib.decNat
      rw [if_neg (by simp)]
      exact decFrom_val (c :: r) 0 hd
    simp only [Lib.atoi, c1, c2, hdn, Bool.false_eq_true, if_false, Option.map_some]
    rfl
end Go.Proofs.YtofdpgcnconibaaGreatDoor.PathP
/-! Orphans' names: the program's answer is the document's. -/
set_option linter.unusedVariables false
set_option linter.unusedSimpArgs false
namespace Go.Proofs.YtofdpgcnconibaaGreatDoor.PathP
open Go.RowKit Go.Proofs.YtofdpgcnconibaaGreatDoor.PA Go.Proofs.YtofdpgcnconibaaGreatDoorW.PrintWords Go.Proofs.YtofdpgcnconibaaGreatDoorW.PrintLast Go.Proofs.YtofdpgcnconibaaGreatDoorW.PrintMore
open Go.Proofs.YtofdpgcnconibaaGreatDoor.Plain
def refV : Option Nat → Int × Bool
  | some n => if 1 ≤ n ∧ n ≤ 1099511627776 then ((n : Int), true) else (0, false)
  | none => (0, false)
theorem orph_l0 (s : ByteArray) (hs : s.size ≤ 14) : ∀ (m k j x : Nat), s.size = j + 1 + m → m < k → x < 10 ^ j →
    coppiceref12_OrphanOf.l0 k s (x : Int) ((j + 1 : Nat) : Int) = some (refV (Lib.decFrom x (s.data.toList.drop (j + 1))))
  | 0, k, j, x, hz, hk, hx => by
    obtain ⟨k, rfl⟩ : ∃ q, k = q + 1 := ⟨k - 1, by omega⟩
    have hd : Lib.decFrom x (s.data.toList.drop (j + 1)) = some x := by
      rw [List.drop_of_length_le (by rw [lenL]; omega)]; rfl
    rw [hd]
    simp only [coppiceref12_OrphanOf.l0, refV]
    rw [if_neg (by omega)]
    by_cases h1 : (x : Int) < 1
    · rw [if_pos h1, if_neg (by omega)]
    · rw [if_neg h1]
      by_cases h2 : (x : Int) > 1099511627776
      · rw [if_pos h2, if_neg (by omega)]
      · rw [if_neg h2, if_pos (by omega)]
  | m + 1, k, j, x, hz, hk, hx => by
    obtain ⟨k, rfl⟩ : ∃ q, k = q + 1 := ⟨k - 1, by omega⟩
    have hi : j + 1 < s.size := by omega
    have hb := bt_nat s (j + 1) hi
    rw [dropL s (j + 1) hi]
    simp only [coppiceref12_OrphanOf.l0]
    rw [if_pos (by omega), if_pos (by omega), hb]
    generalize s[j + 1]'hi = c
    have hp : 10 ^ j ≤ 10 ^ 13 := Nat.pow_le_pow_right (by decide) (by omega)
    by_cases h1 : (c.toNat : Int) < 48
    · have hv : Lib.digitVal c = none := if_neg (fun h => absurd h.1 (by omega))
      rw [if_pos h1, Lib.decFrom, hv]; rfl
    · rw [if_neg h1]
      by_cases h2 : (c.toNat : Int) > 57
      · have hv : Lib.digitVal c = none := if_neg (fun h => absurd h.2 (by omega))
        rw [if_pos h2, Lib.decFrom, hv]; rfl
      · have hv : Lib.digitVal c = some (c.toNat - 48) := if_pos ⟨by omega, by omega⟩
        rw [if_neg h2, decFrom_cons _ _ _ _ hv]
        clear hv hb
        generalize c.toNat = u at *
        have hd : u - 48 < 10 := by omega
        have e0 : wrap64 (10 * (x : Int)) = ((10 * x : Nat) : Int) := by rw [wrap_in (by omega) (by omega)]; omega
        have e1 : wrap64 (((10 * x : Nat) : Int) + (((u : Int) - 48) % 256)) = ((x * 10 + (u - 48) : Nat) : Int) := by rw [wrap_in (by omega) (by omega)]; omega
        rw [e0, e1, wrapn (by omega)]
        clear e0 e1
        refine orph_l0 s hs m k (j + 1) (x * 10 + (u - 48)) (by omega) (by omega) ?_
        rw [Nat.pow_succ]
        omega
/-- What the document answers. -/
def refOrph (s : ByteArray) : Int × Bool := if 2 ≤ s.size ∧ s.size ≤ 14 ∧ s.data.toList.head? = some 0 ∧ s.data.toList.tail.head? ≠ some 48 then refV (Lib.decFrom 0 s.data.toList.tail) else (0, false)
theorem rorph_f (s : ByteArray) (hs : s.size ≤ 1000000) (k : Nat) (hk : s.size + 3 ≤ k) : coppiceref12_OrphanOf.f k s = some (refOrph s) := by
  obtain ⟨k, rfl⟩ : ∃ q, k = q + 1 := ⟨k - 1, by omega⟩
  have bad : coppiceref12_OrphanOf.j0 (k + 1) s true = some (0, false) := by
    simp only [coppiceref12_OrphanOf.j0]; first | done | rfl | rw [if_pos rfl] | rw [if_pos trivial]
  unfold coppiceref12_OrphanOf.f refOrph
  by_cases h0 : (s.size : Int) < 2
  · rw [if_pos h0, bad, if_neg (fun h => absurd h.1 (by omega))]
  · rw [if_neg h0]
    by_cases h1 : (s.size : Int) > 14
    · rw [if_pos h1, bad, if_neg (fun h => absurd h.2.1 (by omega))]
    · have hi0 : 0 < s.size := by omega
      have hi1 : 1 < s.size := by omega
      rw [if_neg h1, if_pos (by omega)]
      have hd : s.data.toList = s[0]'hi0 :: s[1]'hi1 :: s.data.toList.drop 2 := by
        have a := dropL s 0 hi0
        have b := dropL s 1 hi1
        rw [List.drop_zero] at a
        rw [← b]
        exact a
      have b0 : bt s 0 = 0 ↔ s[0]'hi0 = 0 := bt_eq s 0 hi0 0 (by decide)
      have b1 : bt s 1 = 48 ↔ s[1]'hi1 = 48 := bt_eq s 1 hi1 48 (by decide)
      have hh : s.data.toList.head? = some (s[0]'hi0) := by rw [hd]; rfl
      have ht : s.data.toList.tail.head? = some (s[1]'hi1) := by rw [hd]; rfl
      rw [hh, ht]
      by_cases c0 : s[0]'hi0 = 0
      · rw [if_pos (b0.2 c0), if_pos (by omega)]
        by_cases c1 : s[1]'hi1 = 48
        · have e : (bt s 1 == 48) = true := by rw [b1.2 c1]; rfl
          rw [e, bad, if_neg (fun h => h.2.2.2 (by rw [c1]))]
        · have e : (bt s 1 == 48) = false := by rw [beq_eq_false_iff_ne]; exact fun h => c1 (b1.1 h)
          rw [e, if_pos ⟨by omega, by omega, by rw [c0], fun h => c1 (Option.some.inj h)⟩]
          simp only [coppiceref12_OrphanOf.j0]
          have := orph_l0 s (by omega) (s.size - 1) k 0 0 (by omega) (by omega) (by decide)
          rw [if_neg (by decide)]
          have hdr : s.data.toList.drop (0 + 1) = s.data.toList.tail := by rw [hd]; rfl
          rw [hdr] at this
          exact this
      · rw [if_neg (fun h => c0 (b0.1 h)), bad, if_neg (fun h => c0 (Option.some.inj h.2.2.1))]
theorem ten13 : 1099511627776 < 10 ^ (12 + 1) := by decide
theorem ref_true (s : ByteArray) (n : Nat) (h : 1 ≤ n ∧ n ≤ 1099511627776) (hs : s.data.toList = 0 :: Lib.decDigits n) : refOrph s = ((n : Int), true) := by
  obtain ⟨d1, d2, d3, d4⟩ := dec_digits n
  have hl := dec_length 12 n (Nat.lt_of_le_of_lt h.2 ten13)
  have hz : s.size = (Lib.decDigits n).length + 1 := by rw [← lenL, hs]; rfl
  have hne : 1 ≤ (Lib.decDigits n).length := by
    rcases hd : Lib.decDigits n with _ | ⟨a, r⟩
    · exact absurd hd d3
    · simp
  unfold refOrph
  rw [if_pos ⟨by omega, by omega, by rw [hs]; rfl, by rw [hs]; exact d4 h.1⟩, hs, List.tail_cons, decFrom_val _ _ d1, d2]
  exact if_pos h
theorem orphanV_true (s : ByteArray) (n : Nat) (h : 1 ≤ n ∧ n ≤ 1099511627776) (hs : s.data.toList = 0 :: Lib.decDigits n) : orphanV s = ((n : Int), true) := by
  obtain ⟨d1, d2, d3, d4⟩ := dec_digits n
  have hl := dec_length 12 n (Nat.lt_of_le_of_lt h.2 ten13)
  have ha := atoi_digits _ (by omega) d3 d1
  rw [d2] at ha
  rw [orphanV_ok s (n : Int) (by rw [hs]; rfl) (by rw [hs]; exact ha), itoa_nat, hs, if_pos ⟨by omega, by omega, rfl⟩]
theorem orphanV_spec (s : ByteArray) : orphanV s = (0, false) ∨ ∃ n : Nat, (1 ≤ n ∧ n ≤ 1099511627776) ∧ s.data.toList = 0 :: Lib.decDigits n := by
  by_cases hh : s.data.toList.head? = some 0
  · by_cases hb : ∀ n, Lib.atoiAll s.data.toList.tail ≠ .ok n
    · exact .inl (orphanV_bad s hh hb)
    · simp only [Classical.not_forall, ne_eq, Classical.not_not] at hb
      obtain ⟨n, hn⟩ := hb
      rw [orphanV_ok s n hh hn]
      by_cases hc : 1 ≤ n ∧ n ≤ 1099511627776 ∧ 0 :: Lib.itoa n = s.data.toList
      · obtain ⟨u, rfl⟩ : ∃ u : Nat, n = (u : Int) := ⟨n.toNat, by omega⟩
        exact .inr ⟨u, ⟨by omega, by omega⟩, by rw [← itoa_nat]; exact hc.2.2.symm⟩
      · exact .inl (if_neg hc)
  · exact .inl (orphanV_other s hh)
theorem ref_spec (s : ByteArray) : refOrph s = (0, false) ∨ ∃ n : Nat, (1 ≤ n ∧ n ≤ 1099511627776) ∧ s.data.toList = 0 :: Lib.decDigits n := by
  unfold refOrph
  split
  · next h =>
    obtain ⟨h1, h2, h3, h4⟩ := h
    unfold refV
    split
    · next n hn =>
      split
      · next hr =>
        rcases hd : s.data.toList with _ | ⟨c, t⟩
        · rw [hd] at h3; cases h3
        · rw [hd] at h3 h4 hn
          obtain rfl : c = 0 := Option.some.inj h3
          simp only [List.tail_cons] at h4 hn
          have hdig : ∀ x ∈ t, isDig x := by
            intro x hx
            obtain ⟨i, hi, rfl⟩ := List.mem_iff_getElem.1 hx
            obtain ⟨d, hd'⟩ := Lib.digit_of_decFrom t 0 n hn i _ (List.getElem?_eq_getElem hi)
            have := Lib.digitVal_eq hd'
            exact ⟨this.1, this.2.1⟩
          have hne : t ≠ [] := by
            intro e
            rw [e] at hd
            have : s.size = 1 := by rw [← lenL, hd]; rfl
            omega
          have hv : val10 0 t = n := Option.some.inj ((decFrom_val t 0 hdig).symm.trans hn)
          obtain ⟨h5, _⟩ := dec_back t.length t rfl hne hdig h4
          rw [hv] at h5
          exact .inr ⟨n, hr, by rw [h5]⟩
      · exact .inl rfl
    · exact .inl rfl
  · exact .inl rfl
theorem orph_eq (s : ByteArray) : refOrph s = orphanV s := by
  rcases ref_spec s with h | ⟨n, h1, h2⟩
  · rcases orphanV_spec s with h' | ⟨n, h1, h2⟩
    · rw [h, h']
    · rw [ref_true s n h1 h2, orphanV_true s n h1 h2]
  · rw [ref_true s n h1 h2, orphanV_true s n h1 h2]
end Go.Proofs.YtofdpgcnconibaaGreatDoor.PathP
/-! Paths: the document's Loose. -/
set_option linter.unusedVariables false
set_option linter.unusedSimpArgs false
namespace Go.Proofs.YtofdpgcnconibaaGreatDoor.PathP
open Go.RowKit Go.Proofs.YtofdpgcnconibaaGreatDoor.PA Go.Proofs.YtofdpgcnconibaaGreatDoorW.PrintWords Go.Proofs.YtofdpgcnconibaaGreatDoorW.PrintLast Go.Proofs.YtofdpgcnconibaaGreatDoorW.PrintMore
open Go.Proofs.YtofdpgcnconibaaGreatDoor.Plain
theorem lwalk_l0 (l : List ByteArray) (hl : l.length ≤ 1000) (N : Nat) (hN : ∀ x ∈ l, x.size ≤ N) (hN2 : N ≤ 1000000) : ∀ (m k i : Nat), l.length = i + 1 + m → m + N + 5 < k →
    coppiceref12_walk.l0 k true l ((i + 1 : Nat) : Int) = some (if (l.drop (i + 1)).all nameB = true then (l, 0) else ([], 120))
  | 0, k, i, hz, hk => by
    obtain ⟨k, rfl⟩ : ∃ q, k = q + 1 := ⟨k - 1, by omega⟩
    simp only [coppiceref12_walk.l0]
    rw [if_neg (by omega), List.drop_of_length_le (by omega)]
    rfl
  | m + 1, k, i, hz, hk => by
    obtain ⟨k, rfl⟩ : ∃ q, k = q + 1 := ⟨k - 1, by omega⟩
    have hi : i + 1 < l.length := by omega
    have hx : (rdOf ByteArray.empty l ((i + 1 : Nat) : Int)).size ≤ N := by rw [rd_get l (i + 1) hi]; exact hN _ (List.getElem_mem hi)
    simp only [coppiceref12_walk.l0]
    rw [if_pos (by omega), if_pos (by omega), rorph_f _ (by omega) k (by omega), Option.bind_some, rname_f _ (by omega) k (by omega), Option.bind_some, drop_rd l (i + 1) hi, List.all_cons]
    cases hn : nameB (rdOf ByteArray.empty l ((i + 1 : Nat) : Int)) with
    | true => rw [if_pos rfl, wrapn (by omega), lwalk_l0 l hl N hN hN2 m k (i + 1) (by omega) (by omega), Bool.true_and]
    | false => rw [if_neg (by decide), if_pos trivial, if_neg (by omega)]; rfl
theorem lwalk_0 (x : ByteArray) (r : List ByteArray) (hl : (x :: r).length ≤ 1000) (N : Nat) (hN : ∀ y ∈ x :: r, y.size ≤ N) (hN2 : N ≤ 1000000) (k : Nat) (hk : r.length + N + 10 < k) :
    coppiceref12_walk.l0 k true (x :: r) ((0 : Nat) : Int) = some (if looseB x = true ∧ r.all nameB = true then (x :: r, 0) else ([], 120)) := by
  obtain ⟨k, rfl⟩ : ∃ q, k = q + 1 := ⟨k - 1, by omega⟩
  have hx : x.size ≤ N := hN x (List.mem_cons_self ..)
  have hr : rdOf ByteArray.empty (x :: r) ((0 : Nat) : Int) = x := rfl
  have ih := lwalk_l0 (x :: r) hl N hN hN2 r.length k 0 (by simp only [List.length_cons]; omega) (by omega)
  have hd : (x :: r).drop (0 + 1) = r := rfl
  rw [hd] at ih
  simp only [coppiceref12_walk.l0]
  rw [if_pos (by simp only [List.length_cons]; omega), if_pos (by omega), hr, rorph_f _ (by omega) k (by omega), Option.bind_some, rname_f _ (by omega) k (by omega), Option.bind_some, orph_eq, wrapn (by omega), ih]
  have e0 : (((0 : Nat) : Int) = 0) = True := eq_true rfl
  unfold looseB
  cases nameB x <;> cases (orphanV x).2 <;> cases hb : r.all nameB <;> simp
theorem rloose_f (s : ByteArray) (hs : s.size ≤ 1000000) (k : Nat) (hk : 2 * s.size + 50 ≤ k) : coppiceref12_Loose.f k s = some (looseR s) := by
  obtain ⟨k, rfl⟩ : ∃ q, k = q + 3 := ⟨k - 3, by omega⟩
  unfold coppiceref12_Loose.f looseR
  have key : coppiceref12_walk.f (k + 3) s true = some (pathNames looseB 1037 s) := by
    unfold coppiceref12_walk.f
    unfold pathNames
    by_cases h0 : s = ofL [47]
    · rw [if_pos ((toList_iff _ _).2 h0), if_pos h0]
    · rw [if_neg (fun h => h0 ((toList_iff _ _).1 h)), if_neg h0, if_pos rfl]
      have bad : coppiceref12_walk.j1 (k + 2) s true true = some ([], 120) := by
        simp only [coppiceref12_walk.j1]; first | done | rfl | rw [if_pos rfl] | rw [if_pos trivial]
      simp only [coppiceref12_walk.j0]
      rcases hd : s.data.toList with _ | ⟨c, t⟩
      · have hz : s.size = 0 := by rw [← lenL, hd]; rfl
        rw [if_pos ((nil_iff s).2 hz), bad, if_neg (by rintro ⟨h, _⟩; cases h)]
      · have hz : s.size = t.length + 1 := by rw [← lenL, hd]; rfl
        rw [if_neg (fun h => by have := (nil_iff s).1 h; omega), if_pos (by omega)]
        have hc0 : s[0]'(by omega) = c := by
          have := dropL s 0 (by omega)
          rw [List.drop_zero, hd] at this
          injection this with h1 h2
          exact h1.symm
        have h1 : bt s 0 = 47 ↔ s[0]'(by omega) = 47 := bt_eq s 0 (by omega) 47 (by decide)
        rw [hc0] at h1
        by_cases c47 : c = 47
        · rw [if_pos (h1.2 c47)]
          by_cases hm : s.size ≤ 1037
          · rw [decide_eq_false (by omega), if_pos ⟨by rw [c47]; rfl, hm⟩]
            simp only [coppiceref12_walk.j1]
            have e2 : s.extract 1 s.size = ofL t := extract_tail s [c] t (by rw [hd]; rfl)
            have hzt : (ofL t).size = t.length := by show t.toArray.size = _; simp
            rw [if_neg (by decide), if_pos (by omega), e2, rcut_f (ofL t) (by omega) _ (by omega), Option.bind_some, List.tail_cons]
            obtain ⟨x, r, hx⟩ := cutS_ne (ofL t)
            have hsz := cutS_sizes (ofL t)
            rw [hx] at hsz ⊢
            by_cases h32 : (x :: r).length ≤ 32
            · rw [if_neg (by omega), show (0 : Int) = ((0 : Nat) : Int) from rfl, lwalk_0 x r (by omega) (ofL t).size hsz (by omega) _ (by simp only [List.length_cons] at h32; omega)]
              by_cases ha : looseB x = true ∧ r.all nameB = true
              · rw [if_pos ha, if_pos ⟨h32, by rw [List.head?_cons]; exact ha.1, ha.2⟩]; first | done | rfl
              · rw [if_neg ha, if_neg (fun h => ha ⟨h.2.1, h.2.2⟩)]; first | done | rfl
            · rw [if_pos (by omega), if_neg (fun h => h32 h.1)]
          · rw [decide_eq_true (by omega), bad, if_neg (fun h => hm h.2)]
        · rw [if_neg (fun h => c47 (h1.1 h)), bad, if_neg (by rintro ⟨h, _⟩; exact c47 (Option.some.inj h))]
  rw [key, Option.bind_some]
end Go.Proofs.YtofdpgcnconibaaGreatDoor.PathP
