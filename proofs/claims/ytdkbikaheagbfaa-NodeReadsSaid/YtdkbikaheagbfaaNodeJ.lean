import Derived.Test.YtdkbikaheagbfaaPAx23
import Derived.Test.YtdkbikaheagbfaaNodeI
/-! Nodes: what the document reads bytes as. -/
set_option linter.unusedVariables false
set_option linter.unusedSectionVars false
set_option linter.unusedSimpArgs false
namespace Go.Proofs.Ytdkbikaheagbfaa.NodeP
open Go.RowKit Go.Proofs.Ytdkbikaheagbfaa.PA Go.Proofs.YtdkbikaheagbfaaW.PrintWords Go.Proofs.YtdkbikaheagbfaaW.PrintLast Go.Proofs.YtdkbikaheagbfaaW.PrintMore
open Go.Proofs.Ytdkbikaheagbfaa.Plain Go.Proofs.Ytdkbikaheagbfaa.SimP
section
variable (s : ByteArray) (h2 : s.size ≤ 1007)
include h2
theorem rdec_exit (k : Nat) (hk : 10100 ≤ k) (cnt i a e : Int) (R : ByteArray) (b : Bool) (l : List S44) (m : List S46) (h : Sim s a R) (hs : small l m) (hg : e = 0 → a = s.size → rightB b l m = true → s = ofL (refBytes b l m)) :
    ∃ r, coppiceref06_Decode.j2 (k + 1) cnt i false R e b l m = some r ∧ GoodP s r := by
  obtain ⟨v, _, p1, p3⟩ := end_both s a e R h (by omega)
  rw [coppiceref06_Decode.j2, if_neg Bool.false_ne_true, p1, Option.bind_some]
  by_cases hv : v = 0
  · rw [if_pos hv, right_ok k b l m hs hk, Option.bind_some]
    by_cases hc : rightB b l m = true
    · rw [if_pos hc]
      obtain ⟨q1, q2⟩ := p3.mp hv
      have hq := hg q1 q2 hc
      refine ⟨_, rfl, .inr ⟨b, l, m, rfl, ?_, hq⟩⟩
      unfold checkR
      have hz := congrArg ByteArray.size hq
      rw [ofL_size] at hz
      rw [if_pos hc, if_neg (by omega)]
    · rw [if_neg hc]; exact ⟨_, rfl, .no s⟩
  · rw [if_neg hv]; exact ⟨_, rfl, .no s⟩
theorem rdec_stop (k : Nat) (hk : 10100 ≤ k) (cnt i a e : Int) (hcn : 0 ≤ cnt ∧ cnt ≤ 1007) (R : ByteArray) (b : Bool) (l : List S44) (m : List S46) (h : Sim s a R) (hs : small l m) (hn : ¬ (i < cnt ∧ e = 0)) (hg : e = 0 → a = s.size → rightB b l m = true → s = ofL (refBytes b l m)) :
    ∃ r, coppiceref06_Decode.l0 (k + 2) cnt i R e b l m = some r ∧ GoodP s r := by
  rw [coppiceref06_Decode.l0, wrap_in (by omega) (by omega)]
  by_cases hc : i < cnt
  · have he : e ≠ 0 := fun h => hn ⟨hc, h⟩
    have : (e == 0) = false := by simpa using he
    rw [if_pos hc, this]
    exact rdec_exit s h2 k hk cnt i a e R b l m h hs hg
  · rw [if_neg hc]
    exact rdec_exit s h2 k hk cnt i a e R b l m h hs hg
theorem rdec_round (k : Nat) (cnt i : Int) (hcn : 0 ≤ cnt ∧ cnt ≤ 1007) (R : ByteArray) (b : Bool) (l : List S44) (m : List S46) (hc : i < cnt) : coppiceref06_Decode.l0 (k + 2) cnt i R 0 b l m = coppiceref06_Decode.j2 (k + 1) cnt i true R 0 b l m := by
  rw [coppiceref06_Decode.l0, wrap_in (by omega) (by omega), if_pos hc]
  rfl
theorem rdec_leaf (cnt : Int) (hcn : 0 ≤ cnt ∧ cnt ≤ 1007) (d : Nat) : ∀ (k : Nat) (a e : Int) (R : ByteArray) (l : List S44), Sim s a R → (s.size : Int) - a ≤ d → 2 * d + 10200 < k →
    (l.length : Int) ≤ cnt → (∀ x ∈ l, x.f0.size ≤ 1000 ∧ x.f1.size ≤ 1000) → (e = 0 → Has s a ([1] ++ ((shortB cnt).toList ++ l.flatMap itemBytes))) →
    ∃ r, coppiceref06_Decode.l0 k cnt l.length R e true l [] = some r ∧ GoodP s r := by
  induction d with
  | zero =>
    intro k a e R l h hd hk hl hx hI
    obtain ⟨k, rfl⟩ : ∃ q, k = q + 4 := ⟨k - 4, by omega⟩
    have ha := h.h1
    have hs : small l [] := small_of (by omega) (by simp) hx (by simp)
    by_cases hce : (l.length : Int) < cnt ∧ e = 0
    · obtain ⟨hc, rfl⟩ := hce
      rw [show k + 4 = (k + 2) + 2 from rfl, rdec_round s h2 (k + 2) cnt _ hcn R true l [] hc]
      obtain ⟨t1, a1, e1, R1, _, p1, p3, p4, p5⟩ := text_tells s a 0 R h (by omega) (k + 2) (by omega) 272 (by omega)
      obtain ⟨t2, a2, e2, R2, _, q1, q3, q4, q5⟩ := text_tells s a1 e1 R1 p3 (by omega) (k + 2) (by omega) 160 (by omega)
      rw [coppiceref06_Decode.j2, if_pos rfl, p1, Option.bind_some, if_pos rfl, q1, Option.bind_some, if_pos (by omega)]
      have hne : e2 ≠ 0 := fun he => by
        obtain ⟨u1, u2, _⟩ := q5 he
        obtain ⟨_, w2, _⟩ := p5 u1
        have := q3.h1; omega
      refine rdec_stop s h2 k (by omega) cnt _ a2 e2 hcn R2 true _ [] q3 (small_of (by rw [List.length_append]; simp only [List.length_cons, List.length_nil]; omega) (by simp) (fun x hm => ?_) (by simp)) (fun hh => hne hh.2) (fun he => absurd he hne)
      rcases List.mem_append.mp hm with hm | hm
      · exact hx x hm
      · rw [List.mem_singleton] at hm; subst hm; exact ⟨by show t1.size ≤ 1000; omega, by show t2.size ≤ 1000; omega⟩
    · rw [show k + 4 = (k + 2) + 2 from rfl]
      refine rdec_stop s h2 (k + 2) (by omega) cnt _ a e hcn R true l [] h hs hce (fun he hae _ => ?_)
      have i2 := hI he
      have hc : cnt = (l.length : Int) := by by_cases hc : (l.length : Int) < cnt; exact absurd ⟨hc, he⟩ hce; omega
      rw [hae] at i2
      rw [i2.all, hc]
      simp only [refBytes, List.flatMap_nil, List.append_nil]
      rfl
  | succ d ih =>
    intro k a e R l h hd hk hl hx hI
    obtain ⟨k, rfl⟩ : ∃ q, k = q + 4 := ⟨k - 4, by omega⟩
    have ha := h.h1
    have hs : small l [] := small_of (by omega) (by simp) hx (by simp)
    by_cases hce : (l.length : Int) < cnt ∧ e = 0
    · obtain ⟨hc, rfl⟩ := hce
      rw [show k + 4 = (k + 2) + 2 from rfl, rdec_round s h2 (k + 2) cnt _ hcn R true l [] hc]
      obtain ⟨t1, a1, e1, R1, _, p1, p3, p4, p5⟩ := text_tells s a 0 R h (by omega) (k + 2) (by omega) 272 (by omega)
      obtain ⟨t2, a2, e2, R2, _, q1, q3, q4, q5⟩ := text_tells s a1 e1 R1 p3 (by omega) (k + 2) (by omega) 160 (by omega)
      have hx' : ∀ x ∈ l ++ [(⟨t1, t2⟩ : S44)], x.f0.size ≤ 1000 ∧ x.f1.size ≤ 1000 := by
        intro x hm
        rcases List.mem_append.mp hm with hm | hm
        · exact hx x hm
        · rw [List.mem_singleton] at hm; subst hm; exact ⟨by show t1.size ≤ 1000; omega, by show t2.size ≤ 1000; omega⟩
      have hll : (l ++ [(⟨t1, t2⟩ : S44)]).length = l.length + 1 := by rw [List.length_append]; rfl
      have hi : wrap64 ((l.length : Int) + 1) = ((l ++ [(⟨t1, t2⟩ : S44)]).length : Int) := by rw [hll, wrap_in (by omega) (by omega)]; omega
      rw [coppiceref06_Decode.j2, if_pos rfl, p1, Option.bind_some, if_pos rfl, q1, Option.bind_some, if_pos (by omega), hi]
      by_cases he2 : e2 = 0
      · obtain ⟨u1, u2, u3⟩ := q5 he2
        obtain ⟨_, w2, w3⟩ := p5 u1
        have := q3.h1
        refine ih (k + 2) a2 e2 R2 _ q3 (by omega) (by omega) (by rw [hll]; omega) hx' (fun _ => ?_)
        have := u3 _ (w3 _ (hI rfl))
        rw [List.flatMap_append]
        simp only [List.flatMap_cons, List.flatMap_nil, List.append_nil, itemBytes]
        simpa only [List.append_assoc] using this
      · exact rdec_stop s h2 k (by omega) cnt _ a2 e2 hcn R2 true _ [] q3 (small_of (by rw [hll]; omega) (by simp) hx' (by simp)) (fun hh => he2 hh.2) (fun he => absurd he he2)
    · rw [show k + 4 = (k + 2) + 2 from rfl]
      refine rdec_stop s h2 (k + 2) (by omega) cnt _ a e hcn R true l [] h hs hce (fun he hae _ => ?_)
      have i2 := hI he
      have hc : cnt = (l.length : Int) := by by_cases hc : (l.length : Int) < cnt; exact absurd ⟨hc, he⟩ hce; omega
      rw [hae] at i2
      rw [i2.all, hc]
      simp only [refBytes, List.flatMap_nil, List.append_nil]
      rfl
theorem rdec_kids (cnt : Int) (hcn : 0 ≤ cnt ∧ cnt ≤ 1007) (d : Nat) : ∀ (k : Nat) (a e : Int) (R : ByteArray) (m : List S46), Sim s a R → (s.size : Int) - a ≤ d → 2 * d + 10200 < k →
    (m.length : Int) ≤ cnt → (∀ x ∈ m, x.f0.size ≤ 1000) → (e = 0 → Has s a ([2] ++ ((shortB cnt).toList ++ m.flatMap kidBytes))) →
    ∃ r, coppiceref06_Decode.l0 k cnt m.length R e false [] m = some r ∧ GoodP s r := by
  have hend : ∀ (k : Nat) (a e : Int) (R : ByteArray) (m : List S46), 10100 ≤ k → Sim s a R → (m.length : Int) ≤ cnt → (∀ x ∈ m, x.f0.size ≤ 1000) → (e = 0 → Has s a ([2] ++ ((shortB cnt).toList ++ m.flatMap kidBytes))) → ¬ ((m.length : Int) < cnt ∧ e = 0) →
      ∃ r, coppiceref06_Decode.l0 (k + 2) cnt m.length R e false [] m = some r ∧ GoodP s r := by
    intro k a e R m hk h hl hx hI hce
    refine rdec_stop s h2 k hk cnt _ a e hcn R false [] m h (small_of (by simp) (by omega) (by simp) hx) hce (fun he hae _ => ?_)
    have i2 := hI he
    have hc : cnt = (m.length : Int) := by by_cases hc : (m.length : Int) < cnt; exact absurd ⟨hc, he⟩ hce; omega
    rw [hae] at i2
    rw [i2.all, hc]
    simp only [refBytes]
    rw [if_neg Bool.false_ne_true, if_neg Bool.false_ne_true]
    rfl
  induction d with
  | zero =>
    intro k a e R m h hd hk hl hx hI
    obtain ⟨k, rfl⟩ : ∃ q, k = q + 4 := ⟨k - 4, by omega⟩
    have ha := h.h1
    by_cases hce : (m.length : Int) < cnt ∧ e = 0
    · obtain ⟨hc, rfl⟩ := hce
      rw [show k + 4 = (k + 2) + 2 from rfl, rdec_round s h2 (k + 2) cnt _ hcn R false [] m hc]
      obtain ⟨t1, a1, e1, R1, _, p1, p3, p4, p5⟩ := text_tells s a 0 R h (by omega) (k + 2) (by omega) 272 (by omega)
      obtain ⟨v, a2, e2, R2, _, q1, q3, q4, q5, q6⟩ := short_tells s a1 e1 R1 p3 (by omega) (k + 2) (by omega)
      rw [coppiceref06_Decode.j2, if_pos rfl, p1, Option.bind_some, if_neg Bool.false_ne_true, q1, Option.bind_some]
      by_cases hv : v > 4095
      · rw [if_pos hv]; exact ⟨_, rfl, .no s⟩
      rw [if_neg hv, if_pos (by omega)]
      have hne : e2 ≠ 0 := fun he => by
        obtain ⟨u1, u2, _⟩ := q6 he
        obtain ⟨_, w2, _⟩ := p5 u1
        have := q3.h1; omega
      refine rdec_stop s h2 k (by omega) cnt _ a2 e2 hcn R2 false [] _ q3 (small_of (by simp) (by rw [List.length_append]; simp only [List.length_cons, List.length_nil]; omega) (by simp) (fun x hm => ?_)) (fun hh => hne hh.2) (fun he => absurd he hne)
      rcases List.mem_append.mp hm with hm | hm
      · exact hx x hm
      · rw [List.mem_singleton] at hm; subst hm; show t1.size ≤ 1000; omega
    · exact hend (k + 2) a e R m (by omega) h hl hx hI hce
  | succ d ih =>
    intro k a e R m h hd hk hl hx hI
    obtain ⟨k, rfl⟩ : ∃ q, k = q + 4 := ⟨k - 4, by omega⟩
    have ha := h.h1
    by_cases hce : (m.length : Int) < cnt ∧ e = 0
    · obtain ⟨hc, rfl⟩ := hce
      rw [show k + 4 = (k + 2) + 2 from rfl, rdec_round s h2 (k + 2) cnt _ hcn R false [] m hc]
      obtain ⟨t1, a1, e1, R1, _, p1, p3, p4, p5⟩ := text_tells s a 0 R h (by omega) (k + 2) (by omega) 272 (by omega)
      obtain ⟨v, a2, e2, R2, _, q1, q3, q4, q5, q6⟩ := short_tells s a1 e1 R1 p3 (by omega) (k + 2) (by omega)
      rw [coppiceref06_Decode.j2, if_pos rfl, p1, Option.bind_some, if_neg Bool.false_ne_true, q1, Option.bind_some]
      by_cases hv : v > 4095
      · rw [if_pos hv]; exact ⟨_, rfl, .no s⟩
      have hx' : ∀ x ∈ m ++ [(⟨t1, v⟩ : S46)], x.f0.size ≤ 1000 := by
        intro x hm
        rcases List.mem_append.mp hm with hm | hm
        · exact hx x hm
        · rw [List.mem_singleton] at hm; subst hm; show t1.size ≤ 1000; omega
      have hll : (m ++ [(⟨t1, v⟩ : S46)]).length = m.length + 1 := by rw [List.length_append]; rfl
      have hi : wrap64 ((m.length : Int) + 1) = ((m ++ [(⟨t1, v⟩ : S46)]).length : Int) := by rw [hll, wrap_in (by omega) (by omega)]; omega
      rw [if_neg hv, if_pos (by omega), wrap_in (x := v) (by omega) (by omega), hi]
      by_cases he2 : e2 = 0
      · obtain ⟨u1, u2, u3⟩ := q6 he2
        obtain ⟨_, w2, w3⟩ := p5 u1
        have := q3.h1
        refine ih (k + 2) a2 e2 R2 _ q3 (by omega) (by omega) (by rw [hll]; omega) hx' (fun _ => ?_)
        have := u3 _ (w3 _ (hI rfl))
        rw [List.flatMap_append]
        simp only [List.flatMap_cons, List.flatMap_nil, List.append_nil, kidBytes]
        rw [Int.emod_eq_of_lt (by omega) (by omega)]
        simpa only [List.append_assoc] using this
      · exact rdec_stop s h2 k (by omega) cnt _ a2 e2 hcn R2 false [] _ q3 (small_of (by simp) (by rw [hll]; omega) (by simp) hx') (fun hh => he2 hh.2) (fun he => absurd he he2)
    · exact hend (k + 2) a e R m (by omega) h hl hx hI hce
end
theorem rdecode_ok (s : ByteArray) (h4 : s.size ≤ 4096) (k : Nat) (hk : 13000 ≤ k) : ∃ r, coppiceref06_Decode.f k s = some r ∧ GoodP s r := by
  obtain ⟨k, rfl⟩ : ∃ q, k = q + 1 := ⟨k - 1, by omega⟩
  unfold coppiceref06_Decode.f
  obtain ⟨v, a1, e1, R1, _, p1, p3, p4, p5⟩ := byte_both s 0 0 s (Sim.start s) (by omega)
  obtain ⟨c, a2, e2, R2, _, q1, q3, q4, q5, q6⟩ := short_tells s a1 e1 R1 p3 (by omega) (k + 1) (by omega)
  rw [p1, Option.bind_some, q1, Option.bind_some]
  have no : ∀ v c R e, coppiceref06_Decode.j0 (k + 1) v c true R e = some (false, [], [], 60) := fun v c R e => by rw [coppiceref06_Decode.j0, if_pos rfl]
  by_cases hz : (s.size : Int) > 1007
  · rw [if_pos hz, no]; exact ⟨_, rfl, .no s⟩
  rw [if_neg hz]
  have h2 : s.size ≤ 1007 := by omega
  have hst : e2 = 0 → Has s a2 ([ub v] ++ (shortB c).toList) := fun he => by
    obtain ⟨u1, u2, u3⟩ := q6 he
    obtain ⟨_, w2, w3⟩ := p5 u1
    have := (Has.start s).more (by omega) w2 p3.h1 w3
    rw [toList_nums] at this
    exact u3 _ this
  have ha0 := q3.h0
  by_cases c1 : v = 1
  · subst c1
    rw [if_pos rfl]
    by_cases hc : c > 1007
    · rw [decide_eq_true hc, no]; exact ⟨_, rfl, .no s⟩
    rw [decide_eq_false hc, coppiceref06_Decode.j0, if_neg Bool.false_ne_true]
    refine rdec_leaf s h2 c (by omega) 1007 k a2 e2 R2 [] q3 (by omega) (by omega) (by simp only [List.length_nil]; omega) (by simp) (fun he => ?_)
    have := hst he
    rw [List.flatMap_nil, List.append_nil]
    exact this
  rw [if_neg c1]
  by_cases c2 : v = 2
  · subst c2
    rw [if_pos rfl]
    by_cases hc : c > 1007
    · rw [decide_eq_true hc, no]; exact ⟨_, rfl, .no s⟩
    rw [decide_eq_false hc, coppiceref06_Decode.j0, if_neg Bool.false_ne_true]
    refine rdec_kids s h2 c (by omega) 1007 k a2 e2 R2 [] q3 (by omega) (by omega) (by simp only [List.length_nil]; omega) (by simp) (fun he => ?_)
    have := hst he
    rw [List.flatMap_nil, List.append_nil]
    exact this
  rw [if_neg c2, no]
  exact ⟨_, rfl, .no s⟩
end Go.Proofs.Ytdkbikaheagbfaa.NodeP
