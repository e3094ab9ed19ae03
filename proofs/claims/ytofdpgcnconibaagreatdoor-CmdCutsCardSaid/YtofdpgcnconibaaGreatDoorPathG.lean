import Derived.Test.YtofdpgcnconibaaGreatDoorPAx3
import Derived.Test.YtofdpgcnconibaaGreatDoorBytes
import Derived.Lib.IndexAny
/-! Names and paths: what stands between slashes, plain. -/
set_option linter.unusedVariables false
set_option linter.unusedSimpArgs false
namespace Go.Proofs.YtofdpgcnconibaaGreatDoor.PathP
open Go.RowKit Go.Proofs.YtofdpgcnconibaaGreatDoor.PA Go.Proofs.YtofdpgcnconibaaGreatDoorW.PrintWords Go.Proofs.YtofdpgcnconibaaGreatDoorW.PrintLast Go.Proofs.YtofdpgcnconibaaGreatDoorW.PrintMore
open Go.Proofs.YtofdpgcnconibaaGreatDoor.Plain
theorem wrapn {j : Nat} (h : j < 4611686018427387904) : wrap64 ((j : Int) + 1) = ((j + 1 : Nat) : Int) := by rw [wrap_in (by omega) (by omega)]; omega
theorem lenL (s : ByteArray) : s.data.toList.length = s.size := Array.length_toList
/-- What stands between slashes; 'one': what was met of the first. -/
def cutFrom : ByteArray → List UInt8 → List ByteArray
  | one, [] => [one]
  | one, c :: l => if c = 47 then one :: cutFrom ⟨#[]⟩ l else cutFrom (one ++ ⟨#[c]⟩) l
def cutS (s : ByteArray) : List ByteArray := cutFrom ⟨#[]⟩ s.data.toList
def ofL (l : List UInt8) : ByteArray := ⟨l.toArray⟩
theorem ofL_toList (s : ByteArray) : ofL s.data.toList = s := by cases s; simp [ofL]
theorem toList_ofL (l : List UInt8) : (ofL l).data.toList = l := rfl
theorem ofL_append (a b : List UInt8) : ofL (a ++ b) = ofL a ++ ofL b := by
  apply ByteArray.ext
  rw [ByteArray.data_append]
  simp [ofL]
theorem ext_list {x y : ByteArray} (h : x.data.toList = y.data.toList) : x = y := by
  rw [← ofL_toList x, ← ofL_toList y, h]
theorem append_list (x y : ByteArray) : (x ++ y).data.toList = x.data.toList ++ y.data.toList := by
  rw [ByteArray.data_append, Array.toList_append]
theorem cutFrom_free (one : ByteArray) (a : List UInt8) (h : 47 ∉ a) : cutFrom one a = [one ++ ofL a] := by
  induction a generalizing one with
  | nil => simp only [cutFrom]; congr 1; apply ext_list; rw [append_list]; simp [ofL]
  | cons c a ih =>
    have hc : c ≠ 47 := fun e => h (by rw [e]; exact List.mem_cons_self ..)
    simp only [cutFrom]
    rw [if_neg hc, ih _ (fun hm => h (List.mem_cons_of_mem _ hm))]
    congr 1
    apply ext_list
    rw [append_list, append_list, append_list, toList_ofL, toList_ofL]
    simp
theorem cutFrom_sep (one : ByteArray) (a b : List UInt8) (h : 47 ∉ a) : cutFrom one (a ++ 47 :: b) = (one ++ ofL a) :: cutFrom ⟨#[]⟩ b := by
  induction a generalizing one with
  | nil =>
    simp only [List.nil_append, cutFrom, if_true]; congr 1; apply ext_list; rw [append_list]; simp [ofL]
  | cons c a ih =>
    have hc : c ≠ 47 := fun e => h (by rw [e]; exact List.mem_cons_self ..)
    simp only [List.cons_append, cutFrom]
    rw [if_neg hc, ih _ (fun hm => h (List.mem_cons_of_mem _ hm))]
    congr 1
    apply ext_list
    rw [append_list, append_list, append_list, toList_ofL, toList_ofL]
    simp
theorem empty_append (x : ByteArray) : (⟨#[]⟩ : ByteArray) ++ x = x := by apply ext_list; rw [append_list]; rfl
theorem append_empty (x : ByteArray) : x ++ (⟨#[]⟩ : ByteArray) = x := by apply ext_list; rw [append_list]; simp
theorem cutFrom_len (l : List UInt8) : ∀ one : ByteArray, (cutFrom one l).length = l.count 47 + 1 := by
  induction l with
  | nil => intro one; rfl
  | cons c l ih =>
    intro one
    simp only [cutFrom]
    split
    · next h => subst h; rw [List.length_cons, ih, List.count_cons_self]
    · next h => rw [ih, List.count_cons_of_ne h]
/-- The first slash. -/
theorem first_slash (l : List UInt8) : (47 ∉ l ∧ Lib.indexByte l 47 = -1) ∨ ∃ a b, l = a ++ 47 :: b ∧ 47 ∉ a ∧ Lib.indexByte l 47 = a.length := by
  induction l with
  | nil => exact .inl ⟨by simp, rfl⟩
  | cons c l ih =>
    by_cases hc : c = 47
    · subst hc
      exact .inr ⟨[], l, rfl, by simp, by simp [Lib.indexByte]⟩
    · have hb : (c == 47) = false := by simp [hc]
      rcases ih with ⟨h1, h2⟩ | ⟨a, b, h1, h2, h3⟩
      · refine .inl ⟨?_, ?_⟩
        · intro hm
          rcases List.mem_cons.1 hm with h | h
          · exact hc h.symm
          · exact h1 h
        · simp only [Lib.indexByte, hb, h2]; first | done | rfl
      · refine .inr ⟨c :: a, b, by rw [h1]; rfl, ?_, ?_⟩
        · intro hm
          rcases List.mem_cons.1 hm with h | h
          · exact hc h.symm
          · exact h2 h
        · simp only [Lib.indexByte, hb, h3, Bool.false_eq_true, if_false]
          rw [if_neg (by first | (simp; done) | (simp; omega))]
          first | done | simp
theorem extract_list (s : ByteArray) (i j : Nat) : (s.extract i j).data.toList = (s.data.toList.drop i).take (j - i) := by
  rw [ByteArray.data_extract, Array.toList_extract]
theorem extract_head (s : ByteArray) (a b : List UInt8) (h : s.data.toList = a ++ b) : s.extract 0 a.length = ofL a := by
  apply ext_list
  rw [extract_list, h, toList_ofL]
  simp
theorem extract_tail (s : ByteArray) (a b : List UInt8) (h : s.data.toList = a ++ b) : s.extract a.length s.size = ofL b := by
  apply ext_list
  rw [extract_list, toList_ofL, ← lenL s, h]
  simp
theorem bt_eq (s : ByteArray) (i : Nat) (h : i < s.size) (c : Nat) (hc : c < 256) : bt s (i : Int) = (c : Int) ↔ s[i]'h = UInt8.ofNat c := by
  rw [bt_nat s i h, ← UInt8.toNat_inj, UInt8.toNat_ofNat_of_lt' (by show _ < 256; omega)]
  omega
theorem dropL (s : ByteArray) (i : Nat) (h : i < s.size) : s.data.toList.drop i = s[i]'h :: s.data.toList.drop (i + 1) := by
  rw [List.drop_eq_getElem_cons (by rw [lenL]; exact h)]; rfl
theorem extract_one (s : ByteArray) (i : Nat) (h : i < s.size) : s.extract i (i + 1) = ⟨#[s[i]'h]⟩ := by
  apply ext_list
  rw [extract_list, dropL s i h]
  simp
theorem nil_iff (s : ByteArray) : s.toList = ([] : List UInt8) ↔ s.size = 0 := by
  rw [ByteArray.toList_eq, ← lenL]; exact List.length_eq_zero_iff.symm
theorem toList_iff (s : ByteArray) (l : List UInt8) : s.toList = l ↔ s = ofL l := by
  rw [ByteArray.toList_eq]
  constructor
  · intro h; rw [← h, ofL_toList]
  · intro h; rw [h, toList_ofL]
theorem rd_get (l : List ByteArray) (i : Nat) (h : i < l.length) : rdOf ByteArray.empty l (i : Int) = l[i]'h := by
  unfold rdOf
  rw [Int.toNat_natCast, List.getD_eq_getElem?_getD, List.getElem?_eq_getElem h]; rfl
theorem drop_rd (l : List ByteArray) (i : Nat) (h : i < l.length) : l.drop i = rdOf ByteArray.empty l (i : Int) :: l.drop (i + 1) := by
  rw [rd_get l i h, List.drop_eq_getElem_cons h]
/-- A name. -/
def nameB (s : ByteArray) : Bool := freeL s.data.toList && nameOk s
theorem name_f (s : ByteArray) : path_Name.f s = some (nameB s) := rfl
/-- The names of a path of at most so many bytes, whose first is let by by 'first'. -/
def pathNames (first : ByteArray → Bool) (most : Nat) (s : ByteArray) : List ByteArray × Int :=
  if s = ofL [47] then ([], 0) else
  if s.data.toList.head? = some 47 ∧ s.size ≤ most then
    if (cutS (ofL s.data.toList.tail)).length ≤ 32 ∧ (cutS (ofL s.data.toList.tail)).head?.any first = true ∧ (cutS (ofL s.data.toList.tail)).tail.all nameB = true then (cutS (ofL s.data.toList.tail), 0) else ([], 120)
  else ([], 120)
theorem cutS_ne (s : ByteArray) : ∃ x r, cutS s = x :: r := by
  have := cutFrom_len s.data.toList ⟨#[]⟩
  unfold cutS
  cases h : cutFrom ⟨#[]⟩ s.data.toList with
  | nil => rw [h] at this; simp at this
  | cons x r => exact ⟨x, r, rfl⟩
end Go.Proofs.YtofdpgcnconibaaGreatDoor.PathP
