import Derived.Test.YtdkbikaheagbfaaPTx20
import Derived.Test.YtdkbikaheagbfaaNodeV
import Derived.Test.YtdkbikaheagbfaaNodeS
/-! Nodes in parts: the law's walk over the parts. -/
set_option linter.unusedVariables false
set_option linter.unusedSectionVars false
set_option linter.unusedSimpArgs false
namespace Go.Proofs.Ytdkbikaheagbfaa.NodeP
open Go.RowKit Go.Proofs.Ytdkbikaheagbfaa.PT Go.Proofs.YtdkbikaheagbfaaW.PrintWords Go.Proofs.YtdkbikaheagbfaaW.PrintLast Go.Proofs.YtdkbikaheagbfaaW.PrintMore
open Go.Proofs.Ytdkbikaheagbfaa.Plain
theorem at25 (l : List S25) (j : Nat) (hj : j < l.length) : rd_T25 l (j : Int) = l[j] := by
  unfold rd_T25
  rw [Int.toNat_natCast, List.getD_eq_getElem?_getD, List.getElem?_eq_getElem hj]; rfl
section
variable (a : Bool) (l : List S44) (m : List S46) (hs : small l m)
include hs
theorem law_l0 (S : List S25) (hS : S.length ≤ 20000) (hall : ∀ s ∈ S, small s.f1 s.f2 ∧ checkR s.f0 s.f1 s.f2 = 0) : ∀ (n k j : Nat) (A : List S44) (B : List S46),
    j + n = S.length → 10110 + n ≤ k → A ++ (S.drop j).flatMap (·.f1) = l → B ++ (S.drop j).flatMap (·.f2) = m →
    coppicelaw06_NodeSplits.l0 k S S (j : Int) a l m a A B = some true := by
  have hs' := hs
  obtain ⟨s1, s2, s3, s4⟩ := hs'
  intro n
  induction n with
  | zero =>
    intro k j A B hj hk hA hB
    obtain ⟨k, rfl⟩ : ∃ q, k = q + 1 := ⟨k - 1, by omega⟩
    rw [List.drop_of_length_le (by omega)] at hA hB
    simp only [List.flatMap_nil, List.append_nil] at hA hB
    subst hA; subst hB
    rw [coppicelaw06_NodeSplits.l0, if_neg (by omega)]
    by_cases c : (S.length : Int) = 0
    · rw [if_pos c]
    · rw [if_neg c, same_self a A B s1 s2 k (by omega), Option.bind_some]
  | succ n ih =>
    intro k j A B hj hk hA hB
    obtain ⟨k, rfl⟩ : ∃ q, k = q + 1 := ⟨k - 1, by omega⟩
    have hd := List.drop_eq_getElem_cons (show j < S.length by omega)
    rw [hd, List.flatMap_cons, ← List.append_assoc] at hA hB
    obtain ⟨q1, q2⟩ := hall S[j] (List.getElem_mem _)
    have l1 : A.length + (S[j]).f1.length ≤ 5000 := by rw [← hA, List.length_append, List.length_append] at s1; omega
    have l2 : B.length + (S[j]).f2.length ≤ 5000 := by rw [← hB, List.length_append, List.length_append] at s2; omega
    rw [coppicelaw06_NodeSplits.l0, if_pos (by omega), if_pos (by omega), if_pos (by omega), at25 S j (by omega), same_self _ _ _ q1.1 q1.2.1 k (by omega), Option.bind_some, if_pos rfl, ncheck_ok _ _ _ q1, Option.bind_some, if_pos q2, if_pos (by omega), if_pos (by omega), wrapn (by omega)]
    exact ih k (j + 1) _ _ (by omega) (by omega) hA hB
theorem sz_whole (c : Nat) (hc : l.length ≤ c ∧ m.length ≤ c) : sz a l m 0 c = (refBytes a l m).length := by
  unfold sz
  rw [List.drop_zero, List.drop_zero, List.take_of_length_le hc.1, List.take_of_length_le hc.2]
theorem splitL_all (h : rightB a l m = true) : ∀ s ∈ splitL a l m, small s.f1 s.f2 ∧ checkR s.f0 s.f1 s.f2 = 0 := by
  intro s hm
  unfold splitL at hm
  rw [if_pos h] at hm
  obtain ⟨p, hp, rfl⟩ := List.mem_map.mp hm
  have he := right_empty a l m h
  have hc : 1 ≤ l.length + m.length := by
    cases a with
    | true => have := (he.1 rfl).2; omega
    | false => have := (he.2 rfl).2; omega
  obtain ⟨p1, p2, p3⟩ := parts_all (fitsB a l m) (l.length + m.length) (fun j hj => fits_one a l m h j hj) _ 0 1 (by omega) (by omega) (fits_one a l m h 0 (by omega)) p hp
  refine ⟨small_seg l m hs p.1 p.2, ?_⟩
  show checkR a ((l.take p.2).drop p.1) ((m.take p.2).drop p.1) = 0
  unfold checkR
  rw [if_pos (right_seg a l m h p.1 p.2 p1 p2), if_neg]
  unfold fitsB at p3
  rw [decide_eq_true_eq] at p3
  unfold sz at p3
  omega
theorem splitL_len (h : rightB a l m = true) : 1 ≤ (splitL a l m).length ∧ (splitL a l m).length ≤ 10001 ∧ ((splitL a l m).length = 1 ↔ checkR a l m = 0) := by
  have hs' := hs
  obtain ⟨s1, s2, s3, s4⟩ := hs'
  have he := right_empty a l m h
  have hc : 1 ≤ l.length + m.length := by
    cases a with
    | true => have := (he.1 rfl).2; omega
    | false => have := (he.2 rfl).2; omega
  unfold splitL
  rw [if_pos h, List.length_map]
  have h1 := parts_len (fitsB a l m) (l.length + m.length - 1) 0 1
  have h2 := parts_one (fitsB a l m) (l.length + m.length) (fun i j j' => fits_anti a l m i j j') (l.length + m.length - 1) 0 1 (by omega) (fits_one a l m h 0 (by omega))
  refine ⟨by omega, by omega, h2.trans ?_⟩
  unfold fitsB
  rw [decide_eq_true_eq, sz_whole a l m hs _ (by omega)]
  unfold checkR
  rw [if_pos h]
  constructor
  · intro q; rw [if_neg (by omega)]
  · intro q
    by_cases c : ((refBytes a l m).length : Int) > 1007
    · rw [if_pos c] at q; cases q
    · omega
theorem splitL_cat (h : rightB a l m = true) : (splitL a l m).flatMap (·.f1) = l ∧ (splitL a l m).flatMap (·.f2) = m := by
  have he := right_empty a l m h
  have hc : 1 ≤ l.length + m.length := by
    cases a with
    | true => have := (he.1 rfl).2; omega
    | false => have := (he.2 rfl).2; omega
  unfold splitL
  rw [if_pos h, List.flatMap_map, List.flatMap_map]
  have e1 := parts_cat l (fitsB a l m) (l.length + m.length - 1) 0 1 (by omega)
  have e2 := parts_cat m (fitsB a l m) (l.length + m.length - 1) 0 1 (by omega)
  rw [List.drop_zero, List.take_of_length_le (by omega)] at e1 e2
  exact ⟨e1, e2⟩
end
theorem splits_ok (a : Bool) (l : List S44) (m : List S46) (k : Nat) (hk : 50000 ≤ k) : coppicelaw06_NodeSplits.f k a l m = some true := by
  obtain ⟨k, rfl⟩ : ∃ q, k = q + 1 := ⟨k - 1, by omega⟩
  unfold coppicelaw06_NodeSplits.f
  obtain ⟨b, hb, hsm⟩ := great_ok (k + 1) a l m (by omega)
  rw [awake_ok, Option.bind_some, if_pos rfl, hb, Option.bind_some]
  cases b with
  | true => rw [if_pos rfl]
  | false =>
    have hs := hsm rfl
    rw [if_neg Bool.false_ne_true, nsplit_ok a l m hs (k + 1) (by omega), Option.bind_some, rsplit_ok a l m hs (k + 1) (by omega), Option.bind_some, if_pos rfl, ncheck_ok a l m hs, Option.bind_some]
    by_cases h : rightB a l m = true
    · obtain ⟨n1, n2, n3⟩ := splitL_len a l m hs h
      obtain ⟨c1, c2⟩ := splitL_cat a l m hs h
      have all := splitL_all a l m hs h
      have t1 : ((((splitL a l m).length : Int) == 1) != (checkR a l m == 0)) = false := by
        by_cases q : checkR a l m = 0
        · have := n3.mpr q
          rw [q, show ((splitL a l m).length : Int) = 1 by omega]; rfl
        · have : ¬ (splitL a l m).length = 1 := fun e => q (n3.mp e)
          rw [show (((splitL a l m).length : Int) == 1) = false from by simpa using (by omega : ¬ ((splitL a l m).length : Int) = 1), show (checkR a l m == 0) = false by simpa using q]; rfl
      have t2 : ((((splitL a l m).length : Int) == 0) != (checkR a l m == 60)) = false := by
        rw [show (((splitL a l m).length : Int) == 0) = false from by simpa using (by intro e; rw [e] at n1; simp at n1)]
        unfold checkR; rw [if_pos h]; split <;> rfl
      rw [t1, if_neg Bool.false_ne_true, Option.bind_some, t2, coppicelaw06_NodeSplits.j0, if_neg Bool.false_ne_true]
      exact law_l0 a l m hs _ (by omega) all (splitL a l m).length k 0 [] [] (by omega) (by omega) (by rw [List.drop_zero, List.nil_append]; exact c1) (by rw [List.drop_zero, List.nil_append]; exact c2)
    · have e : splitL a l m = [] := by unfold splitL; rw [if_neg h]
      have q : checkR a l m = 60 := by unfold checkR; rw [if_neg h]
      obtain ⟨k, rfl⟩ : ∃ q, k = q + 1 := ⟨k - 1, by omega⟩
      rw [e, q, if_neg (by decide), Option.bind_some, coppicelaw06_NodeSplits.j0, if_neg (by decide), coppicelaw06_NodeSplits.l0, if_neg (by simp), if_pos (by simp)]
end Go.Proofs.Ytdkbikaheagbfaa.NodeP
