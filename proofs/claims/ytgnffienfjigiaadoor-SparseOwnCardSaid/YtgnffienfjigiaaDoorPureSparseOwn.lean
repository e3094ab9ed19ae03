import Derived.Test.YtgnffienfjigiaaDoorPAx12
import Derived.Test.YtgnffienfjigiaaDoorSpG
import Derived.Test.YtgnffienfjigiaaDoorSpJ
import Derived.Test.YtgnffienfjigiaaDoorSpL
namespace Go.Proofs.YtgnffienfjigiaaDoor.Pure
open Go.RowKit Go.Proofs.YtgnffienfjigiaaDoor.PA Go.Proofs.YtgnffienfjigiaaDoorW.PrintWords Go.Proofs.YtgnffienfjigiaaDoorW.PrintLast
open Go.Proofs.YtgnffienfjigiaaDoor.Plain Go.Proofs.YtgnffienfjigiaaDoor.SpP
set_option linter.unusedVariables false
set_option linter.unusedSimpArgs false
theorem SparseOwn : coppicelaw13_SparseOwn.Pure := by
  intro l size s _ _ _
  refine ⟨200000, ?_⟩
  unfold coppicelaw13_SparseOwn.f
  obtain ⟨b, hb, hb2⟩ := great_f l 200000 (by omega)
  rw [awake_f 200000 (by omega), Option.bind_some, if_pos rfl, hb, Option.bind_some]
  cases b with
  | true => rw [if_pos rfl]
  | false =>
    have hl := hb2 rfl
    rw [if_neg (by decide)]
    by_cases c1 : (s.f3.size : Int) > 4096
    · rw [if_pos c1]
    rw [if_neg c1]
    have e1 := write_f l size s.f1 s.f3 (by omega) 200000 (by omega)
    have e2 := trunc_f l size s.f2 (by omega) 200000 (by omega)
    have e3 := punch_f l size s.f1 s.f2 (by omega) 200000 (by omega)
    have hW : ∃ (L : List Pc) (x y : Int), (if goodB l size = true then (if s.f1 < 0 ∨ (s.f3.size : Int) > 4096 then (([] : List Pc), (0 : Int), (1 : Int)) else if s.f1 > 4611686018427387904 - (s.f3.size : Int) then ([], 0, 130) else (writeL l s.f1 s.f3, if s.f3.size = 0 then size else max size (s.f1 + (s.f3.size : Int)), 0)) else ([], 0, 21)) = (L, x, y) ∧ L.length ≤ 300 := by
      split
      · split
        · exact ⟨_, _, _, rfl, by simp⟩
        · split
          · exact ⟨_, _, _, rfl, by simp⟩
          · rename_i c1 c2
            refine ⟨_, _, _, rfl, ?_⟩
            have h1 := len_writeFrom s.f1 s.f3 (countW s.f1 s.f3) (s.f1 / 64) l
            have h2 : countW s.f1 s.f3 ≤ 66 := by unfold countW; split <;> omega
            show (writeFrom _ _ _ _ _).length ≤ _
            omega
      · exact ⟨_, _, _, rfl, by simp⟩
    have hT : ∃ (L : List Pc) (x y : Int), (if goodB l size = true then (if s.f2 < 0 then (([] : List Pc), (0 : Int), (1 : Int)) else if s.f2 > 4611686018427387904 then ([], 0, 130) else (truncL l s.f2, s.f2, 0)) else ([], 0, 21)) = (L, x, y) ∧ L.length ≤ 200 := by
      split
      · split
        · exact ⟨_, _, _, rfl, by simp⟩
        · split
          · exact ⟨_, _, _, rfl, by simp⟩
          · exact ⟨_, _, _, rfl, Nat.le_trans (cut_len _ _ _ _) hl⟩
      · exact ⟨_, _, _, rfl, by simp⟩
    have hP : ∃ (L : List Pc) (x : Int), (if goodB l size = true then (if s.f1 < 0 ∨ s.f2 < 0 then (([] : List Pc), (1 : Int)) else (punchL l size s.f1 s.f2, 0)) else ([], 21)) = (L, x) ∧ L.length ≤ 200 := by
      split
      · split
        · exact ⟨_, _, rfl, by simp⟩
        · exact ⟨_, _, rfl, Nat.le_trans (cut_len _ _ _ _) hl⟩
      · exact ⟨_, _, rfl, by simp⟩
    obtain ⟨W, x, y, hW, lW⟩ := hW
    obtain ⟨T, x2, y2, hT, lT⟩ := hT
    obtain ⟨P, x3, hP, lP⟩ := hP
    rw [hW] at e1
    rw [hT] at e2
    rw [hP] at e3
    rw [e1, Option.bind_some, e2, Option.bind_some, e3, Option.bind_some, same_f l (by omega) 200000 (by omega), Option.bind_some, if_pos]
    refine ⟨rfl, ?_⟩
    unfold coppicelaw13_SparseOwn.fits
    rw [Bool.and_eq_true, Bool.and_eq_true, Bool.and_eq_true, decide_eq_true_iff, decide_eq_true_iff, decide_eq_true_iff, decide_eq_true_iff]
    exact ⟨by omega, by show W.length ≤ _; omega, by show T.length ≤ _; omega, by show P.length ≤ _; omega⟩
end Go.Proofs.YtgnffienfjigiaaDoor.Pure
