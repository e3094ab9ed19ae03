import Derived.Test.YtcocddpknkklhaaPAx10
import Derived.Test.YtcocddpknkklhaaPAx13
import Derived.Test.YtcocddpknkklhaaPAx14
import Derived.Test.YtcocddpknkklhaaPAx15
import Derived.Test.YtcocddpknkklhaaPAx16
import Derived.Test.YtcocddpknkklhaaPAx19
import Derived.Test.YtcocddpknkklhaaPAx20
import Derived.Test.YtcocddpknkklhaaPAx8
import Derived.Test.YtcocddpknkklhaaPAx9
import Derived.Test.YtcocddpknkklhaaDeltaT
/-! What becomes of items: what the document's functions answer, plain. -/
set_option linter.unusedVariables false
set_option linter.unusedSimpArgs false
namespace Go.Proofs.Ytcocddpknkklhaa.DeltaP
open Go.RowKit Go.Proofs.Ytcocddpknkklhaa.PA Go.Proofs.YtcocddpknkklhaaW.PrintWords Go.Proofs.YtcocddpknkklhaaW.PrintLast Go.Proofs.YtcocddpknkklhaaW.PrintMore
open Go.Proofs.Ytcocddpknkklhaa.Plain Go.Proofs.Ytcocddpknkklhaa.MergeP
theorem mine_f {l : List Ch} (h : l.length ≤ 1000) : coppicelaw18_mine.f l = some l := by
  unfold coppicelaw18_mine.f
  rw [Option.bind_some, if_pos (by simp; omega), List.nil_append]
theorem greatC_l (l : List Ch) (hl : l.length ≤ 300) (n : Nat) : ∀ k j : Nat, n = l.length - j → n < k → j ≤ l.length → ∃ b, coppiceref18_Great.l0 k l (j : Int) = some b := by
  induction n with
  | zero =>
    intro k j hn hk hj
    obtain ⟨k, rfl⟩ : ∃ q, k = q + 1 := ⟨k - 1, by omega⟩
    refine ⟨false, ?_⟩
    simp only [coppiceref18_Great.l0]; rw [if_neg (by omega)]
  | succ n ih =>
    intro k j hn hk hj
    obtain ⟨k, rfl⟩ : ∃ q, k = q + 1 := ⟨k - 1, by omega⟩
    simp only [coppiceref18_Great.l0]
    rw [if_pos (by omega), if_pos (by omega), wrapn (by omega)]
    by_cases h : (((rd_T61 l (j : Int)).f0).size : Int) > 400
    · rw [if_pos h]; exact ⟨true, rfl⟩
    · rw [if_neg h]
      by_cases h2 : (((rd_T61 l (j : Int)).f3).size : Int) > 400
      · rw [if_pos h2]; exact ⟨true, rfl⟩
      · rw [if_neg h2]
        by_cases h3 : (((rd_T61 l (j : Int)).f4).size : Int) > 400
        · rw [if_pos h3]; exact ⟨true, rfl⟩
        · rw [if_neg h3]; exact ih k (j + 1) (by omega) (by omega) (by omega)
theorem greatC_f (l : List Ch) (k : Nat) (hk : 301 ≤ k) : ∃ b, coppiceref18_Great.f k l = some b ∧ (b = false → l.length ≤ 300) := by
  unfold coppiceref18_Great.f
  by_cases h : (l.length : Int) > 300
  · rw [if_pos h]; exact ⟨true, rfl, fun h => by cases h⟩
  · rw [if_neg h]
    obtain ⟨b, hb⟩ := greatC_l l (by omega) l.length k 0 (by omega) (by omega) (by omega)
    exact ⟨b, hb, fun _ => by omega⟩
theorem adj_short {α : Type} (k : α → ByteArray) (l : List α) (h : l.length ≤ 1) : adj k l = true := by
  match l, h with
  | [], _ => rfl
  | [a], _ => rfl
  | a :: b :: r, h => simp at h
theorem rises_l (l : List It) (hl : l.length ≤ 1000000) (n : Nat) : ∀ k j : Nat, n = l.length - j → n < k → j ≤ l.length → coppiceref18_Rises.l0 k l (j : Int) = some (adj ik (l.drop j)) := by
  induction n with
  | zero =>
    intro k j hn hk hj
    obtain ⟨k, rfl⟩ : ∃ q, k = q + 1 := ⟨k - 1, by omega⟩
    simp only [coppiceref18_Rises.l0]
    rw [wrapn (by omega), if_neg (by omega), adj_short _ _ (by simp; omega)]
  | succ n ih =>
    intro k j hn hk hj
    obtain ⟨k, rfl⟩ : ∃ q, k = q + 1 := ⟨k - 1, by omega⟩
    simp only [coppiceref18_Rises.l0]
    rw [wrapn (by omega)]
    by_cases h : j + 1 < l.length
    · rw [if_pos (by omega), if_pos (by omega), if_pos (by omega), if_pos (by omega), dropI l j (by omega), dropI l (j + 1) h]
      have ih' := ih k (j + 1) (by omega) (by omega) (by omega)
      rw [dropI l (j + 1) h] at ih'
      show _ = some (lt (rd_T59 l (j : Int)).f0 (rd_T59 l ((j + 1 : Nat) : Int)).f0 && adj ik (rd_T59 l ((j + 1 : Nat) : Int) :: l.drop (j + 1 + 1)))
      cases hb : lt (rd_T59 l (j : Int)).f0 (rd_T59 l ((j + 1 : Nat) : Int)).f0 with
      | true =>
        have hb2 : Op.bytesLess (rd_T59 l (j : Int)).f0.toList (rd_T59 l ((j + 1 : Nat) : Int)).f0.toList = true := hb
        rw [if_pos hb2, ih']; rfl
      | false =>
        have hb' : ¬ Op.bytesLess (rd_T59 l (j : Int)).f0.toList (rd_T59 l ((j + 1 : Nat) : Int)).f0.toList = true := by
          have : Op.bytesLess (rd_T59 l (j : Int)).f0.toList (rd_T59 l ((j + 1 : Nat) : Int)).f0.toList = false := hb
          rw [this]; decide
        rw [if_neg hb']; rfl
    · rw [if_neg (by omega), adj_short _ _ (by simp; omega)]
theorem rises_f (l : List It) (hl : l.length ≤ 1000000) (k : Nat) (hk : l.length < k) : coppiceref18_Rises.f k l = some (adj ik l) := by
  have := rises_l l hl l.length k 0 (by omega) hk (by omega)
  rw [List.drop_zero] at this
  exact this
theorem diff08_l (a b : List It) (ha : a.length ≤ 1000000) (hb : b.length ≤ 1000000) (n : Nat) : ∀ (k i j : Nat) (out : List Ch), (a.length - i) + (b.length - j) ≤ n → 4 * n + 2 ≤ k → i ≤ a.length → j ≤ b.length → out.length ≤ i + j →
    coppiceref08_Diff.l0 k a b out (i : Int) (j : Int) = some (out ++ made diffF (pairs ik ik (a.drop i) (b.drop j))) := by
  induction n with
  | zero =>
    intro k i j out hn hk hi hj ho
    obtain ⟨k, rfl⟩ : ∃ q, k = q + 2 := ⟨k - 2, by omega⟩
    simp only [coppiceref08_Diff.l0, coppiceref08_Diff.j1]
    rw [if_neg (by omega), if_neg (by simp; omega), List.drop_of_length_le (by omega), List.drop_of_length_le (by omega), pairs_nil]
    simp [made]
  | succ n ih =>
    intro k i j out hn hk hi hj ho
    by_cases he : (a.length - i) + (b.length - j) ≤ n
    · exact ih k i j out he (by omega) hi hj ho
    obtain ⟨k, rfl⟩ : ∃ q, k = q + 4 := ⟨k - 4, by omega⟩
    have hin : (if (i : Int) < (a.length : Int) then coppiceref08_Diff.j1 (k + 3) a b out (i : Int) (j : Int) true else coppiceref08_Diff.j1 (k + 3) a b out (i : Int) (j : Int) (decide ((j : Int) < (b.length : Int)))) = coppiceref08_Diff.j1 (k + 3) a b out (i : Int) (j : Int) true := by
      by_cases h : i < a.length
      · rw [if_pos (by omega)]
      · rw [if_neg (by omega), decide_eq_true (by omega)]
    have hleft : i < a.length → (pairs ik ik (a.drop i) (b.drop j) = (some (rd_T59 a (i : Int)), none) :: pairs ik ik (a.drop (i + 1)) (b.drop j)) → coppiceref08_Diff.j2 (k + 2) a b out (i : Int) (j : Int) true = some (out ++ made diffF (pairs ik ik (a.drop i) (b.drop j))) := by
      intro h hp
      simp only [coppiceref08_Diff.j2]
      rw [if_pos trivial, if_pos (by omega), if_pos (by omega), if_pos (by omega), wrapn (by omega), ih _ (i + 1) j _ (by omega) (by omega) (by omega) hj (by simp; omega), hp, made_cons]
      simp [diffF]
    have hright : j < b.length → (pairs ik ik (a.drop i) (b.drop j) = (none, some (rd_T59 b (j : Int))) :: pairs ik ik (a.drop i) (b.drop (j + 1))) → coppiceref08_Diff.j3 (k + 1) a b out (i : Int) (j : Int) true = some (out ++ made diffF (pairs ik ik (a.drop i) (b.drop j))) := by
      intro h hp
      simp only [coppiceref08_Diff.j3]
      rw [if_pos trivial, if_pos (by omega), if_pos (by omega), if_pos (by omega), wrapn (by omega), ih _ i (j + 1) _ (by omega) (by omega) hi (by omega) (by simp; omega), hp, made_cons]
      simp [diffF]
    simp only [coppiceref08_Diff.l0]
    rw [hin]
    simp only [coppiceref08_Diff.j1]
    rw [if_pos trivial]
    by_cases hjb : j < b.length
    · rw [if_neg (by omega)]
      by_cases hia : i < a.length
      · rw [if_pos (by omega), if_pos (by omega), if_pos (by omega), if_pos (by omega)]
        cases h1 : Op.bytesLess (rd_T59 a (i : Int)).f0.toList (rd_T59 b (j : Int)).f0.toList with
        | true =>
          refine hleft hia ?_
          rw [dropI a i hia, dropI b j hjb]
          exact pairs_lt h1
        | false =>
          simp only [coppiceref08_Diff.j2]
          rw [if_neg (by decide), if_neg (by omega), if_pos (by omega), if_pos (by omega), if_pos (by omega), if_pos (by omega)]
          cases h2 : Op.bytesLess (rd_T59 b (j : Int)).f0.toList (rd_T59 a (i : Int)).f0.toList with
          | true =>
            refine hright hjb ?_
            rw [dropI a i hia, dropI b j hjb]
            exact pairs_gt h1 h2
          | false =>
            simp only [coppiceref08_Diff.j3]
            rw [if_neg (by decide), if_pos (by omega), if_pos (by omega), if_pos (by omega), if_pos (by omega), wrapn (by omega), wrapn (by omega)]
            have hp : pairs ik ik (a.drop i) (b.drop j) = (some (rd_T59 a (i : Int)), some (rd_T59 b (j : Int))) :: pairs ik ik (a.drop (i + 1)) (b.drop (j + 1)) := by
              rw [dropI a i hia, dropI b j hjb]
              exact pairs_eq h1 h2
            have hkey : (rd_T59 a (i : Int)).f0 = (rd_T59 b (j : Int)).f0 := lt_tot h1 h2
            by_cases hv : (rd_T59 a (i : Int)).f1.toList = (rd_T59 b (j : Int)).f1.toList
            · rw [if_pos hv, ih _ (i + 1) (j + 1) _ (by omega) (by omega) (by omega) (by omega) (by omega), hp, made_cons]
              simp only [diffF]
              rw [if_pos (toList_inj hv)]
            · rw [if_neg hv, if_pos (by omega), ih _ (i + 1) (j + 1) _ (by omega) (by omega) (by omega) (by omega) (by simp; omega), hp, made_cons]
              simp only [diffF]
              rw [if_neg (fun e => hv (by rw [e])), hkey]
              simp
      · rw [if_neg (by omega)]
        simp only [coppiceref08_Diff.j2]
        rw [if_neg (by decide), if_pos (by omega)]
        refine hright hjb ?_
        rw [List.drop_of_length_le (by omega : a.length ≤ i), dropI b j hjb]
        exact pairs_nr
    · rw [if_pos (by omega)]
      refine hleft (by omega) ?_
      rw [dropI a i (by omega), List.drop_of_length_le (by omega : b.length ≤ j)]
      exact pairs_nl
theorem diff08_f (a b : List It) (ha : a.length ≤ 1000000) (hb : b.length ≤ 1000000) (k : Nat) (hk : 4 * (a.length + b.length) + 2 ≤ k) : coppiceref08_Diff.f k a b = some (diffL a b) := by
  have := diff08_l a b ha hb (a.length + b.length) k 0 0 [] (by omega) (by omega) (by omega) (by omega) (by simp)
  exact this
theorem diff18_f (a b : List It) (ha : a.length ≤ 300) (hb : b.length ≤ 300) (k : Nat) (hk : 2500 ≤ k) : coppiceref18_Diff.f k a b = some (if (adj ik a && adj ik b) = true then (diffL a b, 0) else ([], 21)) := by
  unfold coppiceref18_Diff.f
  rw [rises_f a (by omega) k (by omega), Option.bind_some]
  cases adj ik a with
  | false => rw [if_neg Bool.false_ne_true]; rfl
  | true =>
    rw [if_pos rfl, rises_f b (by omega) k (by omega), Option.bind_some]
    cases adj ik b with
    | false => rw [if_neg Bool.false_ne_true]; rfl
    | true => rw [if_pos rfl, diff08_f a b (by omega) (by omega) k (by omega), Option.bind_some]; rfl
theorem adjR : ∀ l : List Ch, coppiceref18_Right.adj l = adj ck l
  | [] => rfl
  | [a] => rfl
  | a :: b :: r => by
    show (lt a.f0 b.f0 && coppiceref18_Right.adj (b :: r)) = (lt a.f0 b.f0 && adj ck (b :: r))
    rw [adjR (b :: r)]
theorem right_f {c : List Ch} (hc : c.length ≤ 1000000) : coppiceref18_Right.f c = some (rightL c) := by
  unfold coppiceref18_Right.f
  rw [if_pos (by omega), adjR, show delta_Check.rightB = rightC from funext right_eq]
  rfl
theorem find_l (l : List It) (key : ByteArray) (hl : l.length ≤ 1000000) (n : Nat) : ∀ k j : Nat, n = l.length - j → n < k → j ≤ l.length → coppiceref18_find.l0 k l key (j : Int) = some (idxB (fun x : It => decide (x.f0 = key)) (l.drop j) (j : Int)) := by
  induction n with
  | zero =>
    intro k j hn hk hj
    obtain ⟨k, rfl⟩ : ∃ q, k = q + 1 := ⟨k - 1, by omega⟩
    simp only [coppiceref18_find.l0]
    rw [if_neg (by omega), List.drop_of_length_le (by omega)]
    rfl
  | succ n ih =>
    intro k j hn hk hj
    obtain ⟨k, rfl⟩ : ∃ q, k = q + 1 := ⟨k - 1, by omega⟩
    simp only [coppiceref18_find.l0]
    rw [if_pos (by omega), if_pos (by omega), wrapn (by omega), dropI l j (by omega)]
    unfold idxB
    by_cases h : (rd_T59 l (j : Int)).f0.toList = key.toList
    · rw [if_pos h, if_pos (decide_eq_true (toList_inj h))]
    · rw [if_neg h, if_neg (by simpa using fun e => h (by rw [e])), ih k (j + 1) (by omega) (by omega) (by omega)]
      rfl
theorem find_f (l : List It) (key : ByteArray) (hl : l.length ≤ 1000000) (k : Nat) (hk : l.length < k) : coppiceref18_find.f k l key = some (idxB (fun x : It => decide (x.f0 = key)) l 0) := by
  have := find_l l key hl l.length k 0 (by omega) hk (by omega)
  rw [List.drop_zero] at this
  exact this
theorem idx_get (key : ByteArray) : ∀ (l : List It) (i : Nat), (MergeP.get ik key l = none ∧ idxB (fun x : It => decide (x.f0 = key)) l (i : Int) = -1) ∨ (∃ (x : It) (m : Nat), MergeP.get ik key l = some x ∧ idxB (fun x : It => decide (x.f0 = key)) l (i : Int) = ((i + m : Nat) : Int) ∧ l[m]? = some x)
  | [], i => .inl ⟨rfl, rfl⟩
  | x :: r, i => by
    unfold MergeP.get idxB
    by_cases h : x.f0 = key
    · rw [if_pos (show ik x = key from h), if_pos (decide_eq_true h)]
      exact .inr ⟨x, 0, rfl, rfl, rfl⟩
    · rw [if_neg (show ¬ ik x = key from h), if_neg (by simpa using h)]
      have := idx_get key r (i + 1)
      rcases this with ⟨h1, h2⟩ | ⟨y, m, h1, h2, h3⟩
      · exact .inl ⟨h1, by rw [← h2]; rfl⟩
      · exact .inr ⟨y, m + 1, h1, by rw [show i + (m + 1) = i + 1 + m by omega, ← h2]; rfl, by simpa using h3⟩
theorem del_l (l : List It) (key : ByteArray) (hl : l.length ≤ 1000000) (n : Nat) : ∀ (k j : Nat) (out : List It), n = l.length - j → n < k → j ≤ l.length → out.length ≤ j → coppiceref08_Delete.l0 k l key out (j : Int) = some (out ++ delL key (l.drop j)) := by
  induction n with
  | zero =>
    intro k j out hn hk hj ho
    obtain ⟨k, rfl⟩ : ∃ q, k = q + 1 := ⟨k - 1, by omega⟩
    simp only [coppiceref08_Delete.l0]
    rw [if_neg (by omega), List.drop_of_length_le (by omega)]
    simp [delL]
  | succ n ih =>
    intro k j out hn hk hj ho
    obtain ⟨k, rfl⟩ : ∃ q, k = q + 1 := ⟨k - 1, by omega⟩
    simp only [coppiceref08_Delete.l0]
    rw [if_pos (by omega), if_pos (by omega), wrapn (by omega), dropI l j (by omega)]
    unfold delL
    rw [List.filter_cons]
    by_cases h : (rd_T59 l (j : Int)).f0.toList = key.toList
    · rw [if_pos h, ih k (j + 1) _ (by omega) (by omega) (by omega) (by omega), if_neg (by simpa using toList_inj h)]
      rfl
    · rw [if_neg h, if_pos (by omega), ih k (j + 1) _ (by omega) (by omega) (by omega) (by simp; omega), if_pos (by simpa using fun e => h (by rw [e])), List.append_assoc]
      rfl
theorem del_f (l : List It) (key : ByteArray) (hl : l.length ≤ 1000000) (k : Nat) (hk : l.length < k) : coppiceref08_Delete.f k l key = some (delL key l) := by
  have := del_l l key hl l.length k 0 [] (by omega) hk (by omega) (by simp)
  exact this
theorem put_l1 (l : List It) (key : ByteArray) (hl : l.length ≤ 1000000) (n : Nat) : ∀ (k j : Nat) (out : List It), n = l.length - j → n < k → j ≤ l.length → out.length ≤ j + 1 → coppiceref08_Put.l1 k l key out (j : Int) = some (out ++ delL key (l.drop j)) := by
  induction n with
  | zero =>
    intro k j out hn hk hj ho
    obtain ⟨k, rfl⟩ : ∃ q, k = q + 1 := ⟨k - 1, by omega⟩
    simp only [coppiceref08_Put.l1]
    rw [if_neg (by omega), List.drop_of_length_le (by omega)]
    simp [delL]
  | succ n ih =>
    intro k j out hn hk hj ho
    obtain ⟨k, rfl⟩ : ∃ q, k = q + 1 := ⟨k - 1, by omega⟩
    simp only [coppiceref08_Put.l1]
    rw [if_pos (by omega), if_pos (by omega), wrapn (by omega), dropI l j (by omega)]
    unfold delL
    rw [List.filter_cons]
    by_cases h : (rd_T59 l (j : Int)).f0.toList = key.toList
    · rw [if_pos h, ih k (j + 1) _ (by omega) (by omega) (by omega) (by omega), if_neg (by simpa using toList_inj h)]
      rfl
    · rw [if_neg h, if_pos (by omega), ih k (j + 1) _ (by omega) (by omega) (by omega) (by simp; omega), if_pos (by simpa using fun e => h (by rw [e])), List.append_assoc]
      rfl
theorem put_l0 (l : List It) (key v : ByteArray) (hl : l.length ≤ 1000000) (n : Nat) : ∀ (k j : Nat) (out : List It), n = l.length - j → n + 3 ≤ k → j ≤ l.length → out.length ≤ j → coppiceref08_Put.l0 k l key v out (j : Int) = some (out ++ putL (l.drop j) key v) := by
  have hend : ∀ (k j : Nat) (out : List It), l.length - j + 2 ≤ k → j ≤ l.length → out.length ≤ j → coppiceref08_Put.j1 k l key v out (j : Int) = some (out ++ ⟨key, v⟩ :: delL key (l.drop j)) := by
    intro k j out hk hj ho
    obtain ⟨k, rfl⟩ : ∃ q, k = q + 1 := ⟨k - 1, by omega⟩
    simp only [coppiceref08_Put.j1]
    rw [if_pos (by omega), put_l1 l key hl (l.length - j) k j _ rfl (by omega) hj (by simp; omega), List.append_assoc]
    rfl
  induction n with
  | zero =>
    intro k j out hn hk hj ho
    obtain ⟨k, rfl⟩ : ∃ q, k = q + 1 := ⟨k - 1, by omega⟩
    simp only [coppiceref08_Put.l0]
    rw [if_neg (by omega), hend k j out (by omega) hj ho, List.drop_of_length_le (by omega)]
    rfl
  | succ n ih =>
    intro k j out hn hk hj ho
    obtain ⟨k, rfl⟩ : ∃ q, k = q + 1 := ⟨k - 1, by omega⟩
    simp only [coppiceref08_Put.l0]
    rw [if_pos (by omega), if_pos (by omega), wrapn (by omega)]
    cases h : Op.bytesLess (rd_T59 l (j : Int)).f0.toList key.toList with
    | true =>
      have h' : lt (rd_T59 l (j : Int)).f0 key = true := h
      rw [if_pos rfl, if_pos (by omega), ih k (j + 1) _ (by omega) (by omega) (by omega) (by simp; omega), dropI l j (by omega), List.append_assoc]
      simp only [putL]
      rw [if_pos h']
      rfl
    | false =>
      have h' : ¬ lt (rd_T59 l (j : Int)).f0 key = true := by
        have : lt (rd_T59 l (j : Int)).f0 key = false := h
        rw [this]; decide
      rw [if_neg (by decide), hend k j out (by omega) hj ho, dropI l j (by omega)]
      simp only [putL]
      rw [if_neg h']
theorem put_f (l : List It) (key v : ByteArray) (hl : l.length ≤ 1000000) (k : Nat) (hk : l.length + 3 ≤ k) : coppiceref08_Put.f k l key v = some (putL l key v) := by
  have := put_l0 l key v hl l.length k 0 [] (by omega) hk (by omega) (by simp)
  exact this
theorem del_len (key : ByteArray) (l : List It) : (delL key l).length ≤ l.length := List.length_filter_le _ _
theorem put_len (key v : ByteArray) : ∀ l : List It, (putL l key v).length ≤ l.length + 1
  | [] => by simp [putL]
  | x :: r => by
    simp only [putL]
    split
    · have := put_len key v r; simp; omega
    · have := del_len key (x :: r); simp at this ⊢; omega
theorem apply_go (l : List It) (hl : l.length ≤ 300) (k : Nat) (hk : 1000 ≤ k) : ∀ (c : List Ch) (out : List It), out.length + c.length ≤ 700 →
    coppiceref18_Apply.go k l c out = some (if c.all (fun x => fitA (MergeP.get ik x.f0 l) (some x)) = true then (stepsL out c, 0) else ([], 180))
  | [], out, _ => rfl
  | z :: r, out, ho => by
    have ih := apply_go l hl k hk r
    have hlen : out.length + (r.length + 1) ≤ 700 := by simpa using ho
    have hd := del_len z.f0 out
    have hp := put_len z.f0 z.f4 (delL z.f0 out)
    have hbody : ((coppiceref08_Delete.f k out z.f0).bind fun o1 => if z.f2 = true then (coppiceref08_Put.f k o1 z.f0 z.f4).bind fun o2 => coppiceref18_Apply.go k l r o2 else coppiceref18_Apply.go k l r o1) = some (if r.all (fun x => fitA (MergeP.get ik x.f0 l) (some x)) = true then (stepsL out (z :: r), 0) else ([], 180)) := by
      rw [del_f _ _ (by omega) _ (by omega), Option.bind_some]
      simp only [stepsL]
      by_cases hf : z.f2 = true
      · rw [if_pos hf, if_pos hf, put_f _ _ _ (by omega) _ (by omega), Option.bind_some, ih _ (by omega)]
      · rw [if_neg hf, if_neg hf, ih _ (by omega)]
    have hall : (z :: r).all (fun x => fitA (MergeP.get ik x.f0 l) (some x)) = (fitA (MergeP.get ik z.f0 l) (some z) && r.all (fun x => fitA (MergeP.get ik x.f0 l) (some x))) := rfl
    rw [hall]
    unfold coppiceref18_Apply.go
    rw [find_f _ _ (by omega) _ (by omega), Option.bind_some]
    rcases idx_get z.f0 l 0 with ⟨h1, h2⟩ | ⟨x, m, h1, h2, h3⟩
    · have h2' : idxB (fun x : It => decide (x.f0 = z.f0)) l 0 = -1 := h2
      rw [h1, h2', if_pos rfl, show fitA none (some z) = !z.f1 from rfl]
      cases z.f1 with
      | true => rw [if_pos rfl]; rfl
      | false => rw [if_neg Bool.false_ne_true, hbody]; rfl
    · have h2' : idxB (fun x : It => decide (x.f0 = z.f0)) l 0 = (m : Int) := by rw [show (m : Int) = ((0 + m : Nat) : Int) by omega]; exact h2
      have hm : m < l.length := by
        rcases Nat.lt_or_ge m l.length with h | h
        · exact h
        · rw [List.getElem?_eq_none h] at h3; cases h3
      have hx : rd_T59 l (m : Int) = x := by
        unfold rd_T59
        rw [Int.toNat_natCast, List.getD_eq_getElem?_getD, h3]; rfl
      rw [h1, h2', if_neg (by omega), if_pos (by omega), hx, show fitA (some x) (some z) = (z.f1 && decide (x.f1 = z.f3)) from rfl]
      cases z.f1 with
      | false => rw [if_neg (fun h => Bool.false_ne_true h.1)]; rfl
      | true =>
        by_cases hv : x.f1 = z.f3
        · rw [if_pos ⟨rfl, by rw [hv]⟩, hbody, decide_eq_true hv]; rfl
        · rw [if_neg (fun h => hv (toList_inj h.2)), decide_eq_false hv]; rfl
theorem apply18_f (l : List It) (c : List Ch) (hl : l.length ≤ 300) (hc : c.length ≤ 300) (k : Nat) (hk : 2500 ≤ k) : coppiceref18_Apply.f k l c = some (if (adj ik l && rightL c) = true then (if fitsA l c = true then (applyL l c, 0) else ([], 180)) else ([], 21)) := by
  unfold coppiceref18_Apply.f
  rw [if_pos ⟨by omega, by omega⟩, rises_f l (by omega) _ (by omega), Option.bind_some]
  cases h1 : adj ik l with
  | false => rw [if_neg Bool.false_ne_true]; rfl
  | true =>
    rw [if_pos rfl, right_f (c := c) (by omega), Option.bind_some]
    cases h2 : rightL c with
    | false => rw [if_neg Bool.false_ne_true]; rfl
    | true =>
      have rl := (adj_iff l).1 h1
      have rc := rightL_rises h2
      rw [if_pos rfl, apply_go l hl k (by omega) c l (by omega), steps_apply rl rc]
      have hf : (c.all fun x => fitA (MergeP.get ik x.f0 l) (some x)) = fitsA l c := by
        rw [Bool.eq_iff_iff, fits_each rl rc, List.all_eq_true]
      rw [hf]
      rfl
theorem fits_len (l : List It) (c : List Ch) : (applyL l c).length ≤ l.length + c.length := Nat.le_trans made_len (pairs_len _ l c (Nat.le_refl _))
end Go.Proofs.Ytcocddpknkklhaa.DeltaP
