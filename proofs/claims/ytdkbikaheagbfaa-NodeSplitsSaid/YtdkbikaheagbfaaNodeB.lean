import Derived.Test.YtdkbikaheagbfaaPTx16
import Derived.Test.YtdkbikaheagbfaaPTx17
import Derived.Test.YtdkbikaheagbfaaPTx4
import Derived.Test.YtdkbikaheagbfaaPTx9
import Derived.Test.YtdkbikaheagbfaaNodeG
/-! Nodes: may they be; their bytes. -/
set_option linter.unusedVariables false
set_option linter.unusedSectionVars false
set_option linter.unusedSimpArgs false
namespace Go.Proofs.Ytdkbikaheagbfaa.NodeP
open Go.RowKit Go.Proofs.Ytdkbikaheagbfaa.PT Go.Proofs.YtdkbikaheagbfaaW.PrintWords Go.Proofs.YtdkbikaheagbfaaW.PrintLast Go.Proofs.YtdkbikaheagbfaaW.PrintMore
open Go.Proofs.Ytdkbikaheagbfaa.Plain
def ofL (L : List UInt8) : ByteArray := ⟨L.toArray⟩
theorem ofL_app (L M : List UInt8) : ofL L ++ ofL M = ofL (L ++ M) := by
  unfold ofL
  apply ByteArray.ext
  simp [ByteArray.data_append]
theorem ofL_size (L : List UInt8) : (ofL L).size = L.length := by simp [ofL, ByteArray.size]
theorem ofL_toList (L : List UInt8) : (ofL L).toList = L := by rw [ByteArray.toList_eq]; simp [ofL]
theorem ofL_of (s : ByteArray) : ofL s.toList = s := by rw [ByteArray.toList_eq]; rfl
theorem textB_ref (s : ByteArray) (h : s.size ≤ 9223372036854775000) : coppiceref02_Text.f s = some (textB s) := by unfold coppiceref02_Text.f; rw [if_pos (by omega)]; rfl
theorem shortB_ref (n : Int) (h0 : 0 ≤ n) (h1 : n < 18446744073709551616) : coppiceref02_Short.f n = some (shortB n) := by unfold coppiceref02_Short.f; rw [if_pos ⟨h0, h1⟩]; rfl
theorem textB_le (s : ByteArray) : (textB s).size ≤ s.size + 10 := by unfold textB; rw [ByteArray.size_append, strOfNums_size]; have := shortNums_len 9 s.size; omega
theorem shortB_le (n : Int) : (shortB n).size ≤ 10 := by unfold shortB; rw [strOfNums_size]; have := shortNums_len 9 n; omega
theorem item_ok (a b : ByteArray) (ha : a.size ≤ 1000) (hb : b.size ≤ 1000) : coppiceref06_item.f a b = some (ofL (itemBytes ⟨a, b⟩)) := by
  unfold coppiceref06_item.f
  rw [textB_ref a (by omega), Option.bind_some, textB_ref b (by omega), Option.bind_some, if_pos (by have := textB_le a; have := textB_le b; omega)]
  simp only [itemBytes]
  rw [← ofL_app, ofL_of, ofL_of]
theorem kid_ok (a : ByteArray) (b : Int) (ha : a.size ≤ 1000) : coppiceref06_kid.f a b = some (ofL (kidBytes ⟨a, b⟩)) := by
  unfold coppiceref06_kid.f
  rw [textB_ref a (by omega), Option.bind_some, wrap_u64, shortB_ref _ (by omega) (by omega), Option.bind_some, if_pos (by have := textB_le a; have := shortB_le (b % 18446744073709551616); omega)]
  simp only [kidBytes]
  rw [← ofL_app, ofL_of, ofL_of]
theorem item_len (x : S44) (h : x.f0.size ≤ 1000 ∧ x.f1.size ≤ 1000) : (itemBytes x).length ≤ 2020 := by
  simp only [itemBytes, List.length_append, toList_len]
  have := textB_le x.f0; have := textB_le x.f1; omega
theorem kid_len (x : S46) (h : x.f0.size ≤ 1000) : (kidBytes x).length ≤ 1020 := by
  simp only [kidBytes, List.length_append, toList_len]
  have := textB_le x.f0; have := shortB_le (x.f1 % 18446744073709551616); omega
theorem flat_len {α : Type} (f : α → List UInt8) (c : Nat) : ∀ l : List α, (∀ x ∈ l, (f x).length ≤ c) → (l.flatMap f).length ≤ l.length * c
  | [], _ => by simp
  | x :: r, h => by
    rw [List.flatMap_cons, List.length_append, List.length_cons]
    have := h x (by simp); have := flat_len f c r (fun y hy => h y (by simp [hy]))
    rw [Nat.add_mul]; omega
/-- The document's bytes. -/
def refBytes (a : Bool) (l : List S44) (m : List S46) : List UInt8 :=
  [if a = true then 1 else 2] ++ ((shortB (if a = true then (l.length : Int) else (m.length : Int))).toList ++ (l.flatMap itemBytes ++ m.flatMap kidBytes))
theorem refBytes_len (a : Bool) (l : List S44) (m : List S46) (hs : small l m) : (refBytes a l m).length ≤ 20000000 := by
  obtain ⟨h1, h2, h3, h4⟩ := hs
  have e1 := flat_len itemBytes 2020 l (fun x hx => item_len x (h3 x hx))
  have e2 := flat_len kidBytes 1020 m (fun x hx => kid_len x (h4 x hx))
  have e3 := shortB_le (if a = true then (l.length : Int) else (m.length : Int))
  simp only [refBytes, List.length_append, toList_len, List.length_cons, List.length_nil]
  omega
theorem bytes_l1 (a : Bool) (l : List S44) (m : List S46) (hs : small l m) (n : Nat) : ∀ (k j : Nat) (L : List UInt8), n = m.length - j → n < k → j ≤ m.length → L.length ≤ 11000000 + j * 1020 →
    coppiceref06_bytes.l1 k (ofL L) (j : Int) a l m = some (ofL (L ++ (m.drop j).flatMap kidBytes)) := by
  obtain ⟨h1, h2, h3, h4⟩ := hs
  induction n with
  | zero =>
    intro k j L hn hk hj hL
    obtain ⟨k, rfl⟩ : ∃ q, k = q + 1 := ⟨k - 1, by omega⟩
    simp only [coppiceref06_bytes.l1]
    rw [if_neg (by omega), List.drop_of_length_le (by omega)]
    simp
  | succ n ih =>
    intro k j L hn hk hj hL
    obtain ⟨k, rfl⟩ : ∃ q, k = q + 1 := ⟨k - 1, by omega⟩
    have hd := drop46 m j (by omega)
    have hx : (rd_T46 m (j : Int)).f0.size ≤ 1000 := h4 _ (List.mem_of_mem_drop (i := j) (by rw [hd]; simp))
    have hz : (kidBytes ⟨(rd_T46 m (j : Int)).f0, (rd_T46 m (j : Int)).f1⟩).length ≤ 1020 := kid_len _ hx
    simp only [coppiceref06_bytes.l1]
    rw [if_pos (by omega), if_pos (by omega), wrapn (by omega), hd, kid_ok _ _ hx, Option.bind_some, if_pos (by rw [ofL_size, ofL_size]; omega), ofL_app, ih k (j + 1) _ (by omega) (by omega) (by omega) (by rw [List.length_append]; omega)]
    simp
theorem bytes_l0 (a : Bool) (l : List S44) (m : List S46) (hs : small l m) (n : Nat) : ∀ (k j : Nat) (L : List UInt8), n = l.length - j → n + 5001 < k → j ≤ l.length → L.length ≤ 100 + j * 2020 →
    coppiceref06_bytes.l0 k (ofL L) (j : Int) a l m = some (ofL (L ++ ((l.drop j).flatMap itemBytes ++ m.flatMap kidBytes))) := by
  have hs' := hs
  obtain ⟨h1, h2, h3, h4⟩ := hs
  induction n with
  | zero =>
    intro k j L hn hk hj hL
    obtain ⟨k, rfl⟩ : ∃ q, k = q + 1 := ⟨k - 1, by omega⟩
    simp only [coppiceref06_bytes.l0]
    rw [if_neg (by omega), List.drop_of_length_le (by omega)]
    have := bytes_l1 a l m hs' m.length k 0 L (by omega) (by omega) (by omega) (by omega)
    rw [List.drop_zero] at this
    exact this
  | succ n ih =>
    intro k j L hn hk hj hL
    obtain ⟨k, rfl⟩ : ∃ q, k = q + 1 := ⟨k - 1, by omega⟩
    have hd := drop44 l j (by omega)
    have hx := h3 (rd_T44 l (j : Int)) (List.mem_of_mem_drop (i := j) (by rw [hd]; simp))
    have hz : (itemBytes ⟨(rd_T44 l (j : Int)).f0, (rd_T44 l (j : Int)).f1⟩).length ≤ 2020 := item_len _ hx
    simp only [coppiceref06_bytes.l0]
    rw [if_pos (by omega), if_pos (by omega), wrapn (by omega), hd, item_ok _ _ hx.1 hx.2, Option.bind_some, if_pos (by rw [ofL_size, ofL_size]; omega), ofL_app, ih k (j + 1) _ (by omega) (by omega) (by omega) (by rw [List.length_append]; omega)]
    simp
theorem bytes_ok (k : Nat) (a : Bool) (l : List S44) (m : List S46) (hs : small l m) (hk : 10100 ≤ k) : coppiceref06_bytes.f k a l m = some (ofL (refBytes a l m)) := by
  have hs' := hs
  obtain ⟨h1, h2, h3, h4⟩ := hs
  obtain ⟨k, rfl⟩ : ∃ q, k = q + 1 := ⟨k - 1, by omega⟩
  have e0 := shortB_le (m.length : Int)
  have e1 := shortB_le (l.length : Int)
  have w0 : IntKind.u64.wrap (m.length : Int) = (m.length : Int) := by rw [wrap_u64]; omega
  have w1 : IntKind.u64.wrap (l.length : Int) = (l.length : Int) := by rw [wrap_u64]; omega
  unfold coppiceref06_bytes.f
  rw [w0, shortB_ref _ (by omega) (by omega), Option.bind_some, if_pos (by omega)]
  have step : ∀ (c : UInt8) (x : Int), coppiceref06_bytes.j0 (k + 1) ((⟨#[c]⟩ : ByteArray) ++ shortB x) a l m = some (ofL ([c] ++ ((shortB x).toList ++ (l.flatMap itemBytes ++ m.flatMap kidBytes)))) := by
    intro c x
    simp only [coppiceref06_bytes.j0]
    have hc : (⟨#[c]⟩ : ByteArray) ++ shortB x = ofL ([c] ++ (shortB x).toList) := by rw [← ofL_app, ofL_of]; rfl
    have e2 := shortB_le x
    rw [hc]
    have := bytes_l0 a l m hs' l.length k 0 ([c] ++ (shortB x).toList) (by omega) (by omega) (by omega) (by simp only [List.length_append, toList_len, List.length_cons, List.length_nil]; omega)
    rw [List.drop_zero] at this
    exact this.trans (by rw [List.append_assoc])
  cases a with
  | true =>
    rw [if_pos rfl, w1, shortB_ref _ (by omega) (by omega), Option.bind_some, if_pos (by omega), step 1 _]
    rfl
  | false =>
    rw [if_neg (by decide), step 2 _]
    rfl
theorem right_l1 (a : Bool) (l : List S44) (m : List S46) (hs : small l m) (n : Nat) : ∀ (k j : Nat), n = m.length - j → n < k → j ≤ m.length →
    coppiceref06_Right.l1 k (j : Int) a l m = some ((risesB ((m.drop (j - 1)).map (·.f0))) && !((m.drop j).any fun x => !(kidFits x))) := by
  obtain ⟨h1, h2, h3, h4⟩ := hs
  induction n with
  | zero =>
    intro k j hn hk hj
    obtain ⟨k, rfl⟩ : ∃ q, k = q + 1 := ⟨k - 1, by omega⟩
    simp only [coppiceref06_Right.l1]
    rw [if_neg (by omega), List.drop_of_length_le (i := j) (by omega)]
    have h1 : (m.drop (j - 1)).length ≤ 1 := by rw [List.length_drop]; omega
    generalize m.drop (j - 1) = q at h1
    match q, h1 with
    | [], _ => rfl
    | [_], _ => rfl
  | succ n ih =>
    intro k j hn hk hj
    obtain ⟨k, rfl⟩ : ∃ q, k = q + 1 := ⟨k - 1, by omega⟩
    have hd := drop46 m j (by omega)
    have hi := ih k (j + 1) (by omega) (by omega) (by omega)
    rw [show j + 1 - 1 = j by omega, hd] at hi
    simp only [coppiceref06_Right.l1]
    rw [if_pos (by omega), if_pos (by omega), wrapn (by omega)]
    generalize hx : rd_T46 m (j : Int) = x at hd hi ⊢
    by_cases c1 : (x.f0.size : Int) > 272
    · rw [if_pos c1, hd]
      have : kidFits x = false := by simp only [kidFits]; rw [decide_eq_false (by omega), Bool.false_and]
      simp [this]
    rw [if_neg c1]
    by_cases c2 : x.f1 < 2
    · rw [if_pos c2, hd]
      have : kidFits x = false := by simp [kidFits]; omega
      simp [this]
    rw [if_neg c2]
    by_cases c3 : x.f1 > 4095
    · rw [if_pos c3, hd]
      have : kidFits x = false := by simp [kidFits]; omega
      simp [this]
    rw [if_neg c3]
    have hf : kidFits x = true := by simp [kidFits]; omega
    by_cases c4 : j = 0
    · subst c4
      rw [if_neg (by omega), hi]
      simp only [Nat.zero_sub]
      rw [hd, List.any_cons, hf]
      simp
    · have hd' := drop46 m (j - 1) (by omega)
      rw [show j - 1 + 1 = j by omega] at hd'
      rw [if_pos (by omega), wrap_in (by omega) (by omega), show (j : Int) - 1 = ((j - 1 : Nat) : Int) by omega, if_pos (by omega), if_pos (by omega), hi, hd', hd, List.any_cons, hf]
      simp only [List.map_cons, risesB]
      generalize rd_T46 m ((j - 1 : Nat) : Int) = y
      by_cases c5 : Op.bytesLess y.f0.toList x.f0.toList = true
      · rw [if_pos c5, c5]; simp
      · rw [if_neg c5]
        have : Op.bytesLess y.f0.toList x.f0.toList = false := by simpa using c5
        rw [this]; simp
theorem empty_iff (s : ByteArray) : (s.toList = ([] : List UInt8)) ↔ s.toList.isEmpty = true := by cases s.toList <;> simp
theorem right_l0 (a : Bool) (l : List S44) (m : List S46) (hs : small l m) (n : Nat) : ∀ (k j : Nat), n = l.length - j → n + 5001 < k → j ≤ l.length →
    coppiceref06_Right.l0 k (j : Int) a l m = some (((risesB ((l.drop (j - 1)).map (·.f0))) && !((l.drop j).any fun x => !(itemFits x))) && ((risesB (m.map (·.f0))) && !(m.any fun x => !(kidFits x)))) := by
  have hs' := hs
  obtain ⟨h1, h2, h3, h4⟩ := hs
  induction n with
  | zero =>
    intro k j hn hk hj
    obtain ⟨k, rfl⟩ : ∃ q, k = q + 1 := ⟨k - 1, by omega⟩
    simp only [coppiceref06_Right.l0]
    rw [if_neg (by omega), List.drop_of_length_le (i := j) (by omega)]
    have e := right_l1 a l m hs' m.length k 0 (by omega) (by omega) (by omega)
    simp only [Nat.zero_sub, List.drop_zero] at e
    rw [show ((0 : Nat) : Int) = 0 from rfl] at e
    rw [e]
    have h1 : (l.drop (j - 1)).length ≤ 1 := by rw [List.length_drop]; omega
    generalize l.drop (j - 1) = q at h1
    match q, h1 with
    | [], _ => rfl
    | [_], _ => rfl
  | succ n ih =>
    intro k j hn hk hj
    obtain ⟨k, rfl⟩ : ∃ q, k = q + 1 := ⟨k - 1, by omega⟩
    have hd := drop44 l j (by omega)
    have hi := ih k (j + 1) (by omega) (by omega) (by omega)
    rw [show j + 1 - 1 = j by omega, hd] at hi
    simp only [coppiceref06_Right.l0]
    rw [if_pos (by omega), if_pos (by omega), wrapn (by omega)]
    generalize hx : rd_T44 l (j : Int) = x at hd hi ⊢
    by_cases c1 : x.f0.toList = ([] : List UInt8)
    · rw [if_pos c1, hd]
      have : itemFits x = false := by simp [itemFits, c1]
      simp [this]
    rw [if_neg c1]
    by_cases c2 : (x.f0.size : Int) > 272
    · rw [if_pos c2, hd]
      have : itemFits x = false := by simp [itemFits]; omega
      simp [this]
    rw [if_neg c2]
    by_cases c3 : (x.f1.size : Int) > 160
    · rw [if_pos c3, hd]
      have : itemFits x = false := by simp [itemFits]; omega
      simp [this]
    rw [if_neg c3]
    have hf : itemFits x = true := by simp [itemFits]; exact ⟨fun h => c1 (by simpa using h), by omega, by omega⟩
    by_cases c4 : j = 0
    · subst c4
      rw [if_neg (by omega), hi]
      simp only [Nat.zero_sub]
      rw [hd, List.any_cons, hf]
      simp
    · have hd' := drop44 l (j - 1) (by omega)
      rw [show j - 1 + 1 = j by omega] at hd'
      rw [if_pos (by omega), wrap_in (by omega) (by omega), show (j : Int) - 1 = ((j - 1 : Nat) : Int) by omega, if_pos (by omega), if_pos (by omega), hi, hd', hd, List.any_cons, hf]
      simp only [List.map_cons, risesB]
      generalize rd_T44 l ((j - 1 : Nat) : Int) = y
      by_cases c5 : Op.bytesLess y.f0.toList x.f0.toList = true
      · rw [if_pos c5, c5]; simp
      · rw [if_neg c5]
        have : Op.bytesLess y.f0.toList x.f0.toList = false := by simpa using c5
        rw [this]; simp
theorem right_ok (k : Nat) (a : Bool) (l : List S44) (m : List S46) (hs : small l m) (hk : 10100 ≤ k) : coppiceref06_Right.f k a l m = some (rightB a l m) := by
  have hs' := hs
  obtain ⟨h1, h2, h3, h4⟩ := hs
  obtain ⟨k, rfl⟩ : ∃ q, k = q + 1 := ⟨k - 1, by omega⟩
  have e := right_l0 a l m hs' l.length k 0 (by omega) (by omega) (by omega)
  simp only [Nat.zero_sub, List.drop_zero] at e
  rw [show ((0 : Nat) : Int) = 0 from rfl] at e
  unfold coppiceref06_Right.f rightB
  have j1 : ∀ b, coppiceref06_Right.j0 (k + 1) true b l m = some false := fun b => by simp only [coppiceref06_Right.j0]; rfl
  have j0 : ∀ b, coppiceref06_Right.j0 (k + 1) false b l m = coppiceref06_Right.l0 k 0 b l m := fun b => by simp only [coppiceref06_Right.j0]; rfl
  cases a with
  | true =>
    rw [if_pos rfl, if_pos rfl]
    by_cases c1 : (l.length : Int) = 0
    · rw [if_pos c1, j1]
      have : decide (0 < (l.length : Int)) = false := decide_eq_false (by omega)
      rw [this]; simp
    rw [if_neg c1]
    by_cases c2 : (m.length : Int) > 0
    · rw [if_pos c2, j1]
      have : ((m.length : Int) == 0) = false := by simp; intro h; rw [h] at c2; simp at c2
      rw [this]; simp
    rw [if_neg c2, j0, e]
    obtain rfl : m = [] := List.length_eq_zero_iff.mp (by omega)
    have : decide (0 < (l.length : Int)) = true := decide_eq_true (by omega)
    rw [this]
    simp [risesB]
  | false =>
    rw [if_neg Bool.false_ne_true, if_neg Bool.false_ne_true]
    by_cases c1 : (m.length : Int) = 0
    · rw [if_pos c1, j1]
      have : decide (0 < (m.length : Int)) = false := decide_eq_false (by omega)
      rw [this]; simp
    rw [if_neg c1]
    by_cases c2 : (l.length : Int) > 0
    · rw [decide_eq_true c2, j1]
      have : ((l.length : Int) == 0) = false := by simp; intro h; rw [h] at c2; simp at c2
      rw [this]; simp
    rw [decide_eq_false c2, j0, e]
    obtain rfl : l = [] := List.length_eq_zero_iff.mp (by omega)
    have : decide (0 < (m.length : Int)) = true := decide_eq_true (by omega)
    rw [this]
    simp [risesB]
theorem nright_ok (a : Bool) (l : List S44) (m : List S46) (hl : (l.length : Int) ≤ 9223372036854775000) (hm : (m.length : Int) ≤ 9223372036854775000) : node_right.f a l m = some (rightB a l m) := by
  unfold node_right.f; rw [if_pos ⟨hl, hm⟩]
/-- Of a node that may be, the two tell the same bytes. -/
theorem same_bytes (a : Bool) (l : List S44) (m : List S46) (h : rightB a l m = true) : nodeBytes a l m = refBytes a l m := by
  unfold rightB at h
  unfold nodeBytes refBytes
  cases a with
  | true =>
    rw [if_pos rfl] at h
    simp only [Bool.and_eq_true, beq_iff_eq] at h
    rw [h.1, if_pos rfl, if_pos rfl, Int.add_zero]
  | false =>
    rw [if_neg (by decide)] at h
    simp only [Bool.and_eq_true, beq_iff_eq] at h
    rw [h.1, if_neg (by decide), if_neg (by decide), Int.zero_add]
theorem written_ok (a : Bool) (l : List S44) (m : List S46) (hs : small l m) (h : rightB a l m = true) : node_written.f a l m = some (ofL (refBytes a l m)) := by
  unfold node_written.f
  have e := refBytes_len a l m hs
  rw [same_bytes a l m h, if_pos ⟨by omega, by have := hs.1; have := hs.2.1; omega⟩]
  rfl
end Go.Proofs.Ytdkbikaheagbfaa.NodeP
