import Derived.Test.YtgnffienfjigiaaDoorPAx10
import Derived.Test.YtgnffienfjigiaaDoorSpF
import Derived.Test.YtgnffienfjigiaaDoorSpG
import Derived.Test.YtgnffienfjigiaaDoorSpH
namespace Go.Proofs.YtgnffienfjigiaaDoor.Pure
open Go.RowKit Go.Proofs.YtgnffienfjigiaaDoor.PA Go.Proofs.YtgnffienfjigiaaDoorW.PrintWords Go.Proofs.YtgnffienfjigiaaDoorW.PrintLast
open Go.Proofs.YtgnffienfjigiaaDoor.Plain Go.Proofs.YtgnffienfjigiaaDoor.SpP
set_option linter.unusedVariables false
theorem ranges_true (k : Nat) (l : List Pc) (size a : Int) : coppicelaw13_SparseRanges.j0 (k + 1) l size a true = some true := by
  simp only [coppicelaw13_SparseRanges.j0, if_true]
/-- Is there a piece? -/
def anyP (a : Int) (l : List Pc) : Bool := l.any fun p => decide (p.f0 = a / 64)
def anyR (a : Int) (r : List Rg) : Bool := r.any fun x => decide (x.f0 ≤ a ∧ a < x.f1)
theorem ranges_l1 (l : List Pc) (size a : Int) (hg : SpP.Good l size) (ha0 : 0 ≤ a) (ha : a < size) (hl : l.length ≤ 200) (x9 : Bool) (n : Nat) : ∀ (k j : Nat) (has : Bool), n = l.length - j → n + 1000 < k → j ≤ l.length → x9 = (has || anyP a (l.drop j)) → (x9 = false → atL l a = 0) →
    coppicelaw13_SparseRanges.l1 k l size a x9 has (j : Int) = some true := by
  induction n with
  | zero =>
    intro k j has hn hk hj h1 h2
    obtain ⟨k, rfl⟩ : ∃ q, k = q + 1 := ⟨k - 1, by omega⟩
    simp only [coppicelaw13_SparseRanges.l1]
    rw [List.drop_of_length_le (by omega)] at h1
    have hx : x9 = has := by rw [h1]; exact Bool.or_false _
    have e1 : (max (min 1 (size - a)) 0).toNat = 1 := by omega
    have es : (readL l a 1).size = 1 := mkB_size _ _
    have hhi := hg.hi
    rw [if_neg (by omega), own_f (by omega), Option.bind_some, read_f l size a 1 (by omega) (by omega) _ (by omega), if_pos (goodB_of hg), if_neg (by omega), Option.bind_some, if_pos (by rw [hx]; exact beq_self_eq_true _), if_pos rfl, e1, es, if_pos (by rfl)]
    cases x9 with
    | true => rw [if_pos rfl]
    | false =>
      rw [if_neg (by decide)]
      have hz := h2 rfl
      have : readL l a 1 = ⟨#[0]⟩ := by
        unfold readL mkB
        show strOfNums [atL l (a + 0)] = _
        rw [Int.add_zero, hz]
        rfl
      rw [this]
      show some ((⟨#[0]⟩ : ByteArray).toList == [0]) = some true
      rw [ByteArray.toList_eq]
      rfl
  | succ n ih =>
    intro k j has hn hk hj h1 h2
    obtain ⟨k, rfl⟩ : ∃ q, k = q + 1 := ⟨k - 1, by omega⟩
    simp only [coppicelaw13_SparseRanges.l1]
    rw [dropP l j (by omega)] at h1
    have hh : x9 = (has || (decide ((rd_T39 l (j : Int)).f0 = a / 64) || anyP a (l.drop (j + 1)))) := h1
    rw [if_pos (by omega), w1 (by omega)]
    cases has with
    | true =>
      rw [if_pos rfl]
      exact ih k (j + 1) true (by omega) (by omega) (by omega) (by rw [hh]; rfl) h2
    | false =>
      rw [if_neg (by decide), if_pos (by omega), tdiv0 ha0, w64 (by have := hg.hi; omega) (by have := hg.hi; omega)]
      refine ih k (j + 1) _ (by omega) (by omega) (by omega) ?_ h2
      rw [hh, Bool.false_or]
      rfl
theorem rdR_get (r : List Rg) (j : Nat) (hj : j < r.length) : rd_T37 r (j : Int) = r[j] := by
  unfold rd_T37
  rw [Int.toNat_natCast, List.getD_eq_getElem?_getD, List.getElem?_eq_getElem hj]
  rfl
theorem ranges_l0 (l : List Pc) (size a : Int) (hg : SpP.Good l size) (ha0 : 0 ≤ a) (ha : a < size) (hl : l.length ≤ 200) (r : List Rg) (hr1 : ∀ x ∈ r, x.f0 < x.f1 ∧ x.f1 ≤ size) (hr2 : r.Pairwise (fun x y => x.f1 < y.f0)) (hrl : r.length ≤ 100000)
    (hfin : anyR a r = anyP a l) (n : Nat) : ∀ (k j : Nat) (x9 : Bool), n = r.length - j → n + 2000 < k → j ≤ r.length → (x9 || anyR a (r.drop j)) = anyR a r →
    coppicelaw13_SparseRanges.l0 k l size a r x9 false (j : Int) = some true := by
  induction n with
  | zero =>
    intro k j x9 hn hk hj h1
    obtain ⟨k, rfl⟩ : ∃ q, k = q + 1 := ⟨k - 1, by omega⟩
    simp only [coppicelaw13_SparseRanges.l0]
    rw [List.drop_of_length_le (by omega)] at h1
    have hx : x9 = anyP a l := by rw [← hfin, ← h1]; exact (Bool.or_false _).symm
    rw [if_neg (by omega), show (0 : Int) = ((0 : Nat) : Int) from rfl]
    refine ranges_l1 l size a hg ha0 ha hl x9 l.length k 0 false (by omega) (by omega) (by omega) (by rw [Bool.false_or, List.drop_zero]; exact hx) (fun h => ?_)
    refine at_none (fun p hp e => ?_)
    have : anyP a l = true := List.any_eq_true.2 ⟨p, hp, decide_eq_true e⟩
    rw [← hx, h] at this
    cases this
  | succ n ih =>
    intro k j x9 hn hk hj h1
    obtain ⟨k, rfl⟩ : ∃ q, k = q + 1 := ⟨k - 1, by omega⟩
    have hjl : j < r.length := by omega
    obtain ⟨x, hx⟩ : ∃ x, rd_T37 r (j : Int) = x := ⟨_, rfl⟩
    have hxm : x ∈ r := by rw [← hx, rdR_get r j hjl]; exact List.getElem_mem hjl
    have hb := hr1 x hxm
    rw [List.drop_eq_getElem_cons hjl, ← rdR_get r j hjl, hx] at h1
    have h1' : (x9 || (decide (x.f0 ≤ a ∧ a < x.f1) || anyR a (r.drop (j + 1)))) = anyR a r := h1
    have hprev : (j : Int) > 0 → wrap64 ((j : Int) - 1) = ((j - 1 : Nat) : Int) ∧ ¬ ((rd_T37 r ((j - 1 : Nat) : Int)).f1 ≥ x.f0) ∧ ((j - 1 : Nat) : Int) < (r.length : Int) := fun h => by
      refine ⟨by rw [w64 (by omega) (by omega)]; omega, ?_, by omega⟩
      have := List.pairwise_iff_getElem.1 hr2 (j - 1) j (by omega) hjl (by omega)
      rw [rdR_get r (j - 1) (by omega), ← hx, rdR_get r j hjl]
      omega
    simp only [coppicelaw13_SparseRanges.l0]
    rw [hx, if_pos (by omega), w1 (by omega)]
    cases x9 with
    | true =>
      have nxt := ih k (j + 1) true (by omega) (by omega) (by omega) (by rw [← h1']; rfl)
      rw [if_pos rfl, if_pos (by omega), if_neg (by omega), if_neg (by omega), nxt]
      by_cases c : (j : Int) > 0
      · obtain ⟨p1, p2, p3⟩ := hprev c
        rw [if_pos c, p1, if_pos (by omega), if_pos p3, if_neg p2]
      · rw [if_neg c]
    | false =>
      rw [if_neg (by decide), if_pos (by omega)]
      have nxt := ih k (j + 1) (decide (x.f0 ≤ a ∧ a < x.f1)) (by omega) (by omega) (by omega) (by rw [← h1', Bool.false_or])
      by_cases c0 : a ≥ x.f0
      · have ed : decide (x.f0 ≤ a ∧ a < x.f1) = decide (a < x.f1) := by
          apply decide_eq_decide.2
          omega
        rw [ed] at nxt
        rw [if_pos c0, if_neg (by omega), if_neg (by omega), nxt]
        by_cases c : (j : Int) > 0
        · obtain ⟨p1, p2, p3⟩ := hprev c
          rw [if_pos c, p1, if_pos (by omega), if_pos p3, if_neg p2]
        · rw [if_neg c]
      · have ed : decide (x.f0 ≤ a ∧ a < x.f1) = false := decide_eq_false (by omega)
        rw [ed] at nxt
        rw [if_neg c0, if_neg (by omega), if_neg (by omega), nxt]
        by_cases c : (j : Int) > 0
        · obtain ⟨p1, p2, p3⟩ := hprev c
          rw [if_pos c, p1, if_pos (by omega), if_pos p3, if_neg p2]
        · rw [if_neg c]
theorem rangesB_len (size : Int) : ∀ (l : List Pc) (a b : Int), (rangesB size a b l).length ≤ l.length + 1
  | [], a, b => Nat.le_refl _
  | p :: l, a, b => by
    unfold rangesB
    split
    · have := rangesB_len size l a (p.f0 * 64 + min 64 (size - p.f0 * 64))
      simp only [List.length_cons]; omega
    · have := rangesB_len size l (p.f0 * 64) (p.f0 * 64 + min 64 (size - p.f0 * 64))
      simp only [List.length_cons]; omega
theorem ranges_false (l : List Pc) (size a : Int) (hl : l.length ≤ 200) (ha0 : 0 ≤ a) (ha : a < size) : coppicelaw13_SparseRanges.j0 20000 l size a false = some true := by
  simp only [coppicelaw13_SparseRanges.j0]
  rw [if_neg (by decide), own_f (by omega), Option.bind_some, ranges_f l size (by omega) _ (by omega), Option.bind_some]
  by_cases g : goodB l size = true
  · have hg := (goodB_iff _ _).1 g
    rw [if_pos g, if_pos rfl]
    obtain ⟨r1, r2, r3⟩ := ranges_ok hg
    have hlen : (rangesL size l).length ≤ 1000 := by
      cases l with
      | nil => show 0 ≤ 1000; omega
      | cons p l =>
        have := rangesB_len size l (p.f0 * 64) (p.f0 * 64 + min 64 (size - p.f0 * 64))
        simp only [List.length_cons] at hl
        show (rangesB size _ _ l).length ≤ _
        omega
    refine ranges_l0 l size a hg ha0 ha hl (rangesL size l) r1 r2 (by omega) ?_ _ _ 0 false rfl (by omega) (by omega) (by rw [Bool.false_or, List.drop_zero])
    have h3 := r3 a ha0 ha
    rw [Bool.eq_iff_iff]
    unfold anyR anyP
    rw [List.any_eq_true, List.any_eq_true]
    constructor
    · rintro ⟨x, hx, h⟩
      obtain ⟨p, hp, e⟩ := h3.1 ⟨x, hx, of_decide_eq_true h⟩
      exact ⟨p, hp, decide_eq_true e⟩
    · rintro ⟨p, hp, h⟩
      obtain ⟨x, hx, e⟩ := h3.2 ⟨p, hp, of_decide_eq_true h⟩
      exact ⟨x, hx, decide_eq_true e⟩
  · rw [if_neg g, if_neg (by decide), if_pos (by rfl), Option.bind_some, check_f l size (by omega) _ (by omega), if_neg g]
    rfl
theorem SparseRanges : coppicelaw13_SparseRanges.Pure := by
  intro l size a _ _ _
  refine ⟨20000, ?_⟩
  unfold coppicelaw13_SparseRanges.f
  obtain ⟨b, hb, hb2⟩ := great_f l 20000 (by omega)
  rw [awake_f 20000 (by omega), Option.bind_some, if_pos rfl, hb, Option.bind_some]
  cases b with
  | true => rw [if_pos rfl]; exact ranges_true 19999 _ _ _
  | false =>
    rw [if_neg (by decide)]
    by_cases c1 : a < 0
    · rw [if_pos c1]; exact ranges_true 19999 _ _ _
    rw [if_neg c1]
    by_cases c4 : a ≥ size
    · rw [decide_eq_true c4]; exact ranges_true 19999 _ _ _
    rw [decide_eq_false c4]
    exact ranges_false l size a (hb2 rfl) (by omega) (by omega)
end Go.Proofs.YtgnffienfjigiaaDoor.Pure
