import Derived.Test.YtkfmilfmpmmpkaaDoorPBx24
import Derived.Test.YtkfmilfmpmmpkaaDoorPathA
/-! Paths: names joined, by the program. -/
set_option linter.unusedVariables false
set_option linter.unusedSimpArgs false
namespace Go.Proofs.YtkfmilfmpmmpkaaDoor.PathP
open Go.RowKit Go.Proofs.YtkfmilfmpmmpkaaDoor.PB Go.Proofs.YtkfmilfmpmmpkaaDoorW.PrintWords Go.Proofs.YtkfmilfmpmmpkaaDoorW.PrintLast Go.Proofs.YtkfmilfmpmmpkaaDoorW.PrintMore
open Go.Proofs.YtkfmilfmpmmpkaaDoor.Plain
/-- A slash ahead of each. -/
def slashed (l : List ByteArray) : List UInt8 := (l.map fun x => 47 :: x.data.toList).flatten
theorem slashed_cons (x : ByteArray) (l : List ByteArray) : slashed (x :: l) = 47 :: x.data.toList ++ slashed l := rfl
theorem slashed_append (l m : List ByteArray) : slashed (l ++ m) = slashed l ++ slashed m := by simp [slashed]
/-- The path of names. -/
def joined (l : List ByteArray) : ByteArray := if l = [] then ofL [47] else ofL (slashed l)
theorem join_slash (l : List ByteArray) : (⟨#[47]⟩ : ByteArray) ++ ofL (Lib.join (l.map (·.data.toList)) [47]) = joined l := by
  apply ext_list
  rw [append_list, toList_ofL]
  cases l with
  | nil => rfl
  | cons x r =>
    unfold joined
    rw [if_neg (by simp), toList_ofL, slashed_cons, List.map_cons, Lib.join_cons]
    unfold Lib.joinTail slashed
    rw [List.map_map]
    rfl
theorem slashed_len (l : List ByteArray) (N : Nat) (h : ∀ x ∈ l, x.size ≤ N) : (slashed l).length ≤ l.length * (N + 1) := by
  induction l with
  | nil => exact Nat.zero_le _
  | cons x l ih =>
    have h1 := h x (List.mem_cons_self ..)
    have h2 := ih (fun y hy => h y (List.mem_cons_of_mem _ hy))
    rw [slashed_cons, List.length_append, List.length_cons, List.length_cons, lenL, Nat.add_mul]
    omega
theorem free_47 (x : ByteArray) (h : nameB x = true) : 47 ∉ x.data.toList := fun hm => (name_nonzero x h 47 hm).2 rfl
/-- What was joined is cut into the names again. -/
theorem cut_slashed (l : List ByteArray) : ∀ (x : ByteArray), nameB x = true → l.all nameB = true → cutS (ofL (x.data.toList ++ slashed l)) = x :: l := by
  induction l with
  | nil =>
    intro x hx _
    unfold cutS
    rw [toList_ofL]
    have : slashed [] = [] := rfl
    rw [this, List.append_nil, cutFrom_free _ _ (free_47 x hx), empty_append, ofL_toList]
  | cons y l ih =>
    intro x hx ha
    rw [List.all_cons, Bool.and_eq_true] at ha
    unfold cutS
    rw [toList_ofL, slashed_cons, List.cons_append, cutFrom_sep _ _ _ (free_47 x hx), empty_append, ofL_toList]
    congr 1
    have := ih y ha.1 ha.2
    unfold cutS at this
    rw [toList_ofL] at this
    exact this
/-- What Join answers. -/
def joinR (l : List ByteArray) : ByteArray × Int := if l.all nameB = true ∧ l.length ≤ 32 ∧ (joined l).size ≤ 1023 then (joined l, 0) else (⟨#[]⟩, 120)
theorem joinR_yes (l : List ByteArray) (h : l.all nameB = true) (hc : l.length ≤ 32 ∧ (joined l).size ≤ 1023) : joinR l = (joined l, 0) := if_pos ⟨h, hc⟩
theorem joinR_no (l : List ByteArray) (h : ¬ (l.all nameB = true ∧ l.length ≤ 32 ∧ (joined l).size ≤ 1023)) : joinR l = (⟨#[]⟩, 120) := if_neg h
theorem name_len (x : ByteArray) (h : nameB x = true) : 1 ≤ x.size := by
  rw [nameB_eq] at h
  simp only [Bool.and_eq_true] at h
  have := h.2.1
  rcases hx : x.data.toList with _ | ⟨c, t⟩
  · rw [hx] at this; simp at this
  · rw [← lenL, hx]; simp
theorem size_ofL (l : List UInt8) : (ofL l).size = l.length := by show l.toArray.size = _; simp
theorem ofL_inj {a b : List UInt8} (h : ofL a = ofL b) : a = b := by rw [← toList_ofL a, h, toList_ofL]
theorem split_joined (l : List ByteArray) (ha : l.all nameB = true) : splitR (joined l) = if l.length ≤ 32 ∧ (joined l).size ≤ 1023 then (l, 0) else ([], 120) := by
  unfold splitR
  rw [pathNames_all]
  cases l with
  | nil =>
    unfold joined
    rw [if_pos rfl, if_pos rfl, if_pos ⟨by decide, by rw [size_ofL]; decide⟩]
  | cons x l =>
    unfold joined
    rw [if_neg (by simp : ¬ (x :: l : List ByteArray) = [])]
    rw [List.all_cons, Bool.and_eq_true] at ha
    have hl := name_len x ha.1
    have hne : ¬ ofL (slashed (x :: l)) = ofL [47] := by
      intro h
      have := congrArg List.length (ofL_inj h)
      rw [slashed_cons, List.length_append, List.length_cons, lenL] at this
      simp only [List.length_cons, List.length_nil] at this
      omega
    rw [if_neg hne, toList_ofL, slashed_cons]
    have ht : (47 :: x.data.toList ++ slashed l).tail = x.data.toList ++ slashed l := rfl
    have hh : (47 :: x.data.toList ++ slashed l).head? = some 47 := rfl
    rw [ht, hh, cut_slashed l x ha.1 ha.2]
    by_cases hz : (ofL (47 :: x.data.toList ++ slashed l)).size ≤ 1023
    · rw [if_pos ⟨rfl, hz⟩]
      by_cases h32 : (x :: l).length ≤ 32
      · rw [if_pos ⟨h32, by rw [List.all_cons, ha.1, ha.2]; rfl⟩, if_pos ⟨h32, hz⟩]
      · rw [if_neg (fun h => h32 h.1), if_neg (fun h => h32 h.1)]
    · rw [if_neg (fun h => hz h.2), if_neg (fun h => hz h.2)]
/-- What is split holds names. -/
theorem splitR_names (s : ByteArray) (h : (splitR s).2 = 0) : (splitR s).1.all nameB = true := by
  rcases splitR_ok s h with ⟨_, h⟩ | ⟨t, _, _, _, h, _, h3⟩
  · rw [h]; rfl
  · rw [h]; exact h3
theorem equal_l0 (a b : List ByteArray) (hl : a.length = b.length) (ha : a.length ≤ 1000000) : ∀ (m k i : Nat), a.length = i + m → m < k → slices_Equal_string.l0 k a b (a.length : Int) (i : Int) = some (decide (a.drop i = b.drop i))
  | 0, k, i, hz, hk => by
    obtain ⟨k, rfl⟩ : ∃ q, k = q + 1 := ⟨k - 1, by omega⟩
    simp only [slices_Equal_string.l0]
    rw [if_neg (by omega), List.drop_of_length_le (by omega), List.drop_of_length_le (by omega)]
    rfl
  | m + 1, k, i, hz, hk => by
    obtain ⟨k, rfl⟩ : ∃ q, k = q + 1 := ⟨k - 1, by omega⟩
    simp only [slices_Equal_string.l0]
    rw [if_pos (by omega), if_pos (by omega), if_pos (by omega), if_pos (by omega), drop_rd a i (by omega), drop_rd b i (by omega)]
    by_cases h : rdOf ByteArray.empty a (i : Int) = rdOf ByteArray.empty b (i : Int)
    · rw [if_pos (by rw [h]), wrapn (by omega), equal_l0 a b hl ha m k (i + 1) (by omega) (by omega), h]
      congr 1
      simp
    · rw [if_neg (fun e => h (by rw [ByteArray.toList_eq, ByteArray.toList_eq] at e; exact ext_list e)), decide_eq_false (fun e => h (by injection e))]
theorem equal_f (a b : List ByteArray) (ha : a.length ≤ 1000000) (k : Nat) (hk : a.length < k) : slices_Equal_string.f k a b = some (decide (a = b)) := by
  unfold slices_Equal_string.f
  by_cases hl : a.length = b.length
  · rw [if_pos (by omega)]
    have := equal_l0 a b hl ha a.length k 0 (by omega) hk
    exact this
  · rw [if_neg (by omega), decide_eq_false (fun e => hl (by rw [e]))]
theorem splitR_len (s : ByteArray) : (splitR s).1.length ≤ 32 := by
  rcases splitR_cases s with h | h
  · rcases splitR_ok s h with ⟨_, h⟩ | ⟨t, _, _, _, h, h3, _⟩
    · rw [h]; decide
    · rw [h]; exact h3
  · rw [h]; decide
theorem joined_size (l : List ByteArray) (hl : l.length ≤ 300) (hx : ∀ x ∈ l, x.size ≤ 2000) : (joined l).size ≤ 900000 := by
  unfold joined
  split
  · rw [size_ofL]; simp
  · rw [size_ofL]
    have := slashed_len l 2000 hx
    have := Nat.mul_le_mul_right (2000 + 1) hl
    omega
theorem pjoin_f (l : List ByteArray) (hl : l.length ≤ 300) (hx : ∀ x ∈ l, x.size ≤ 2000) (k : Nat) (hk : 1000000 ≤ k) : path_Join.f k l = some (joinR l) := by
  have hz := joined_size l hl hx
  have hj := join_slash l
  have hs : (Lib.join (l.map (·.data.toList)) [47]).length ≤ 900000 := by
    have := congrArg ByteArray.size hj
    rw [ByteArray.size_append, size_ofL] at this
    omega
  unfold path_Join.f strings_Join.f
  have e47 : (⟨#[47]⟩ : ByteArray).data.toList = [47] := rfl
  rw [e47, if_pos ⟨by omega, by omega⟩, Option.bind_some]
  have hsz : (⟨(Lib.join (l.map (·.data.toList)) [47]).toArray⟩ : ByteArray).size = (Lib.join (l.map (·.data.toList)) [47]).length := size_ofL _
  rw [hsz, if_pos (by omega)]
  have hj2 : (⟨#[47]⟩ : ByteArray) ++ ⟨(Lib.join (l.map (·.data.toList)) [47]).toArray⟩ = joined l := hj
  rw [hj2, psplit_f _ (by omega) k (by omega), Option.bind_some]
  by_cases ha : l.all nameB = true
  · rw [split_joined l ha]
    by_cases hc : l.length ≤ 32 ∧ (joined l).size ≤ 1023
    · rw [joinR_yes l ha hc, if_pos hc]
      simp only
      first | rw [if_pos trivial] | skip
      rw [equal_f l l (by omega) k (by omega), decide_eq_true rfl, Option.bind_some, if_pos rfl]
    · rw [joinR_no l (fun h => hc h.2), if_neg hc]
      rfl
  · rw [joinR_no l (fun h => ha h.1)]
    by_cases he : (splitR (joined l)).2 = 0
    · have hn := splitR_names _ he
      have h32 := splitR_len (joined l)
      rw [if_pos he, equal_f _ _ (by omega) k (by omega), decide_eq_false (fun e => ha (by rw [← e]; exact hn)), Option.bind_some, if_neg (by decide)]
    · rw [if_neg he]
end Go.Proofs.YtkfmilfmpmmpkaaDoor.PathP
