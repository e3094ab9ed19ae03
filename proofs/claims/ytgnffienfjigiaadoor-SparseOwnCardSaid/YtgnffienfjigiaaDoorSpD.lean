import Derived.Test.YtgnffienfjigiaaDoorPAx3
import Derived.Test.YtgnffienfjigiaaDoorSpC
/-! Check: the program's and the document's. -/
set_option linter.unusedVariables false
set_option linter.unusedSimpArgs false
namespace Go.Proofs.YtgnffienfjigiaaDoor.SpP
open Go.RowKit Go.Proofs.YtgnffienfjigiaaDoor.PA Go.Proofs.YtgnffienfjigiaaDoorW.PrintWords Go.Proofs.YtgnffienfjigiaaDoorW.PrintMore
open Go.Proofs.YtgnffienfjigiaaDoor.Plain
theorem tdiv0 {a : Int} (h : 0 ≤ a) (b : Int) : Int.tdiv a b = a / b := Int.tdiv_eq_ediv_of_nonneg h
theorem tmod0 {a : Int} (h : 0 ≤ a) (b : Int) : Int.tmod a b = a % b := Int.tmod_eq_emod_of_nonneg h
theorem check_j2 (k : Nat) (size : Int) (l : List Pc) (j : Nat) (last : Int) (p : Pc) (h0 : 0 ≤ size) (h1 : size ≤ 4611686018427387904) (hl : -1 ≤ last) (hlt : last < p.f0) (hs : p.f0 * 64 < size) (hz : p.f1.size = 64) (n : Int) :
    sparse_Check.j2 (k + 1) size l n (j : Int) false p.f0 p.f1 = if zeroB size p = true then sparse_Check.l0 k size p.f0 l n (wrap64 ((j : Int) + 1)) else some 21 := by
  simp only [sparse_Check.j2]
  rw [if_neg (by decide)]
  have e1 : wrap64 (p.f0 * 64) = p.f0 * 64 := w64 (by omega) (by omega)
  have e2 : wrap64 (size - p.f0 * 64) = size - p.f0 * 64 := w64 (by omega) (by omega)
  rw [e1, e2]
  by_cases hc : size - p.f0 * 64 < 64
  · obtain ⟨t1, t2⟩ := trimmed (p := p) (size := size) hz rfl (by omega) hc
    rw [if_pos hc, if_pos (by omega), if_pos (by omega), t1, Option.bind_some]
    by_cases hq : zeroB size p = true
    · rw [if_pos (t2.2 hq), if_pos hq]
    · rw [if_neg (fun h => hq (t2.1 h)), if_neg hq]
  · rw [if_neg hc, if_pos ((zeroB_iff _ _).2 (fun k k0 k1 k2 => by omega))]
theorem check_l0 (size : Int) (h0 : 0 ≤ size) (h1 : size ≤ 4611686018427387904) (l : List Pc) (hl : l.length ≤ 1000000000) (n : Nat) : ∀ (k j : Nat) (last : Int), n = l.length - j → 2 * n < k → j ≤ l.length → -1 ≤ last →
    sparse_Check.l0 k size last l (l.length : Int) (j : Int) = some (if okL size last (l.drop j) = true then 0 else 21) := by
  induction n with
  | zero =>
    intro k j last hn hk hj hla
    obtain ⟨k, rfl⟩ : ∃ q, k = q + 1 := ⟨k - 1, by omega⟩
    simp only [sparse_Check.l0]
    rw [if_neg (by omega), List.drop_of_length_le (by omega)]
    rfl
  | succ n ih =>
    intro k j last hn hk hj hla
    obtain ⟨k, rfl⟩ : ∃ q, k = q + 2 := ⟨k - 2, by omega⟩
    simp only [sparse_Check.l0]
    rw [if_pos (by omega), if_pos (by omega), if_pos (by omega), dropP l j (by omega)]
    generalize hp : rd_T39 l (j : Int) = p
    show _ = some (if (okP size last p && okL size p.f0 (l.drop (j + 1))) = true then 0 else 21)
    have hno : okP size last p = false → sparse_Check.j2 (k + 1) size l (l.length : Int) (j : Int) true p.f0 p.f1 = some (if (okP size last p && okL size p.f0 (l.drop (j + 1))) = true then 0 else 21) := by
      intro h
      simp only [sparse_Check.j2]
      rw [if_pos trivial, h, Bool.false_and, if_neg (by decide)]
    by_cases c1 : p.f0 ≤ last
    · rw [if_pos c1]
      exact hno (by rw [Bool.eq_false_iff]; intro h; have := (okP_iff _ _ _).1 h; omega)
    · rw [if_neg c1]
      have ed : wrap64 (Int.tdiv (wrap64 (size - 1)) 64) = if size = 0 then 0 else (size - 1) / 64 := by
        by_cases hz : size = 0
        · subst hz
          rw [if_pos rfl, w64 (x := 0 - 1) (by omega) (by omega), show Int.tdiv (0 - 1) 64 = 0 from by decide, w64 (by omega) (by omega)]
        · rw [if_neg hz, w64 (x := size - 1) (by omega) (by omega), tdiv0 (by omega), w64 (by omega) (by omega)]
      rw [ed]
      by_cases c2 : p.f0 > if size = 0 then 0 else (size - 1) / 64
      · rw [if_pos c2]
        refine hno ?_
        rw [Bool.eq_false_iff]
        intro h
        have := (okP_iff _ _ _).1 h
        split at c2 <;> omega
      · rw [if_neg c2]
        by_cases c3 : size = 0
        · rw [if_pos c3]
          refine hno ?_
          rw [Bool.eq_false_iff]
          intro h
          have := (okP_iff _ _ _).1 h
          omega
        · rw [if_neg c3]
          rw [if_neg c3] at c2
          by_cases c4 : p.f1.size = 64
          · have e4 : ((p.f1.size : Int) != 64) = false := by rw [c4]; rfl
            rw [e4, check_j2 k size l j last p h0 h1 hla (by omega) (by omega) c4]
            have hok : okP size last p = zeroB size p := by
              unfold okP
              rw [decide_eq_true (show last < p.f0 by omega), decide_eq_true (show p.f0 * 64 < size by omega), decide_eq_true c4]
              rfl
            rw [hok]
            by_cases hq : zeroB size p = true
            · rw [if_pos hq, hq, Bool.true_and, w1 (by omega)]
              exact ih k (j + 1) p.f0 (by omega) (by omega) (by omega) (by omega)
            · rw [if_neg hq, Bool.eq_false_iff.2 hq, Bool.false_and, if_neg (by decide)]
          · have e4 : ((p.f1.size : Int) != 64) = true := by
              rw [bne_iff_ne]
              omega
            rw [e4]
            refine hno ?_
            rw [Bool.eq_false_iff]
            intro h
            exact c4 ((okP_iff _ _ _).1 h).2.2.1
theorem check_f (l : List Pc) (size : Int) (hl : l.length ≤ 1000000000) (k : Nat) (hk : 2 * l.length + 1 < k) : sparse_Check.f k l size = some (if goodB l size = true then 0 else 21) := by
  obtain ⟨k, rfl⟩ : ∃ q, k = q + 1 := ⟨k - 1, by omega⟩
  unfold sparse_Check.f
  have hj : sparse_Check.j0 (k + 1) l size true = some 21 := by
    simp only [sparse_Check.j0]
    rw [if_pos trivial]
  by_cases c1 : size < 0
  · rw [if_pos c1, hj, if_neg]
    intro h
    have := ((goodB_iff _ _).1 h).lo
    omega
  · rw [if_neg c1]
    by_cases c2 : size > 4611686018427387904
    · rw [decide_eq_true c2, hj, if_neg]
      intro h
      have := ((goodB_iff _ _).1 h).hi
      omega
    · rw [decide_eq_false c2]
      simp only [sparse_Check.j0]
      rw [if_neg (by decide), show (0 : Int) = ((0 : Nat) : Int) from rfl, check_l0 size (by omega) (by omega) l hl l.length k 0 (-1) (by omega) (by omega) (by omega) (by omega), List.drop_zero]
      unfold goodB
      rw [decide_eq_true (show 0 ≤ size by omega), decide_eq_true (show size ≤ 4611686018427387904 by omega)]
      rfl
end Go.Proofs.YtgnffienfjigiaaDoor.SpP
