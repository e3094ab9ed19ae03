import Derived.Test.YtdkbikaheagbfaaPAx21
import Derived.Test.YtdkbikaheagbfaaNodeC
import Derived.Test.YtdkbikaheagbfaaNodeH
/-! Nodes: what bytes are read as. -/
set_option linter.unusedVariables false
set_option linter.unusedSectionVars false
set_option linter.unusedSimpArgs false
namespace Go.Proofs.Ytdkbikaheagbfaa.NodeP
open Go.RowKit Go.Proofs.Ytdkbikaheagbfaa.PA Go.Proofs.YtdkbikaheagbfaaW.PrintWords Go.Proofs.YtdkbikaheagbfaaW.PrintLast Go.Proofs.YtdkbikaheagbfaaW.PrintMore
open Go.Proofs.Ytdkbikaheagbfaa.Plain Go.Proofs.Ytdkbikaheagbfaa.SimP
abbrev NT := Bool × List S44 × List S46 × Int
/-- No node; or one that may stand in a block, and has just these bytes. -/
def GoodP (s : ByteArray) (r : NT) : Prop := r = (false, [], [], 60) ∨ ∃ b l m, r = (b, l, m, 0) ∧ checkR b l m = 0 ∧ s = ofL (refBytes b l m)
theorem GoodP.no (s : ByteArray) : GoodP s (false, [], [], 60) := .inl rfl
theorem small_of {l : List S44} {m : List S46} (h1 : l.length ≤ 5000) (h2 : m.length ≤ 5000) (h3 : ∀ x ∈ l, x.f0.size ≤ 1000 ∧ x.f1.size ≤ 1000) (h4 : ∀ x ∈ m, x.f0.size ≤ 1000) : small l m := ⟨h1, h2, h3, h4⟩
section
variable (s : ByteArray) (h2 : s.size ≤ 4096)
include h2
theorem dec_exit (k : Nat) (x6 x7 a e : Int) (R : ByteArray) (b : Bool) (l : List S44) (m : List S46) (h : Sim s a R) (hs : small l m) (hg : e = 0 → a = s.size → checkR b l m = 0 → s = ofL (refBytes b l m)) :
    ∃ r, node_Decode.j1 (k + 1) x6 x7 false s a e b l m = some r ∧ GoodP s r := by
  obtain ⟨v, p1, _, p3⟩ := end_both s a e R h (by omega)
  rw [node_Decode.j1, if_neg Bool.false_ne_true, p1, Option.bind_some]
  by_cases hv : v = 0
  · rw [if_pos hv, ncheck_ok b l m hs, Option.bind_some]
    by_cases hc : checkR b l m = 0
    · rw [if_pos hc]
      obtain ⟨q1, q2⟩ := p3.mp hv
      exact ⟨_, rfl, .inr ⟨b, l, m, rfl, hc, hg q1 q2 hc⟩⟩
    · rw [if_neg hc]; exact ⟨_, rfl, .no s⟩
  · rw [if_neg hv]; exact ⟨_, rfl, .no s⟩
theorem dec_stop (k : Nat) (x6 c a e : Int) (R : ByteArray) (b : Bool) (l : List S44) (m : List S46) (h : Sim s a R) (hs : small l m) (hn : ¬ (c > 0 ∧ e = 0)) (hg : e = 0 → a = s.size → checkR b l m = 0 → s = ofL (refBytes b l m)) :
    ∃ r, node_Decode.l0 (k + 2) x6 c s a e b l m = some r ∧ GoodP s r := by
  rw [node_Decode.l0]
  by_cases hc : c > 0
  · have he : e ≠ 0 := fun h => hn ⟨hc, h⟩
    rw [if_pos hc]
    unfold pack_Reader_Err.f
    rw [Option.bind_some]
    have : (e == 0) = false := by simpa using he
    rw [this]
    exact dec_exit s h2 k x6 c a e R b l m h hs hg
  · rw [if_neg hc]
    exact dec_exit s h2 k x6 c a e R b l m h hs hg
/-- A round, in which there is a number of entries left and no error. -/
theorem dec_round (k : Nat) (x6 c a : Int) (b : Bool) (l : List S44) (m : List S46) (hc : c > 0) : node_Decode.l0 (k + 2) x6 c s a 0 b l m = node_Decode.j1 (k + 1) x6 c true s a 0 b l m := by
  rw [node_Decode.l0, if_pos hc]
  unfold pack_Reader_Err.f
  rw [Option.bind_some]
  rfl
theorem dec_leaf (cnt : Int) (d : Nat) : ∀ (k : Nat) (c a e : Int) (R : ByteArray) (b : Bool) (l : List S44), Sim s a R → (s.size : Int) - a ≤ d → 2 * d + 30 < k → 0 ≤ c → c < 18446744073709551616 →
    (l.length : Int) ≤ a + 1 → (e = 0 → (l.length : Int) ≤ a) → (∀ x ∈ l, x.f0.size ≤ 1000 ∧ x.f1.size ≤ 1000) → (e = 0 → c + l.length = cnt ∧ Has s a ([1] ++ ((shortB cnt).toList ++ l.flatMap itemBytes)) ∧ b = decide (0 < l.length)) →
    ∃ r, node_Decode.l0 k 1 c s a e b l [] = some r ∧ GoodP s r := by
  induction d with
  | zero =>
    intro k c a e R b l h hd hk hc0 hc1 hl hl2 hx hI
    obtain ⟨k, rfl⟩ : ∃ q, k = q + 4 := ⟨k - 4, by omega⟩
    have ha := h.h1
    have hs : small l [] := small_of (by omega) (by simp) hx (by simp)
    by_cases hce : c > 0 ∧ e = 0
    · obtain ⟨hc, rfl⟩ := hce
      rw [show k + 4 = (k + 2) + 2 from rfl, dec_round s h2 (k + 2) 1 c a b l [] hc]
      obtain ⟨t1, a1, e1, R1, p1, _, p3, p4, p5⟩ := text_tells s a 0 R h (by omega) (k + 2) (by omega) 272 (by omega)
      obtain ⟨t2, a2, e2, R2, q1, _, q3, q4, q5⟩ := text_tells s a1 e1 R1 p3 (by omega) (k + 2) (by omega) 160 (by omega)
      rw [node_Decode.j1, if_pos rfl, if_pos rfl, p1, Option.bind_some, q1, Option.bind_some, if_pos (by omega)]
      refine dec_stop s h2 k 1 _ a2 e2 R2 true _ [] q3 (small_of (by rw [List.length_append]; simp only [List.length_cons, List.length_nil]; omega) (by simp) (fun x hm => ?_) (by simp)) (fun hh => ?_) (fun he => ?_)
      · rcases List.mem_append.mp hm with hm | hm
        · exact hx x hm
        · rw [List.mem_singleton] at hm; subst hm; exact ⟨by show t1.size ≤ 1000; omega, by show t2.size ≤ 1000; omega⟩
      · obtain ⟨u1, u2, _⟩ := q5 hh.2
        obtain ⟨_, w2, _⟩ := p5 u1
        have := q3.h1; omega
      · obtain ⟨u1, u2, _⟩ := q5 he
        obtain ⟨_, w2, _⟩ := p5 u1
        have := q3.h1; omega
    · rw [show k + 4 = (k + 2) + 2 from rfl]
      refine dec_stop s h2 (k + 2) 1 c a e R b l [] h hs hce (fun he hae hck => ?_)
      obtain ⟨i1, i2, i3⟩ := hI he
      have hc : c = 0 := by by_cases hc : c > 0; exact absurd ⟨hc, he⟩ hce; omega
      rw [hae] at i2
      have hr := (checkR_ok b l [] hck).1
      cases l with
      | nil =>
        rw [i3] at hr
        exact absurd hr (by simp [rightB])
      | cons x r =>
        have hb : b = true := by rw [i3]; exact decide_eq_true (by simp)
        have hcn : cnt = ((x :: r).length : Int) := by omega
        rw [i2.all, hb, hcn]
        simp only [refBytes, List.flatMap_nil, List.append_nil]
        rfl
  | succ d ih =>
    intro k c a e R b l h hd hk hc0 hc1 hl hl2 hx hI
    obtain ⟨k, rfl⟩ : ∃ q, k = q + 4 := ⟨k - 4, by omega⟩
    have ha := h.h1
    have hs : small l [] := small_of (by omega) (by simp) hx (by simp)
    by_cases hce : c > 0 ∧ e = 0
    · obtain ⟨hc, rfl⟩ := hce
      rw [show k + 4 = (k + 2) + 2 from rfl, dec_round s h2 (k + 2) 1 c a b l [] hc]
      obtain ⟨t1, a1, e1, R1, p1, _, p3, p4, p5⟩ := text_tells s a 0 R h (by omega) (k + 2) (by omega) 272 (by omega)
      obtain ⟨t2, a2, e2, R2, q1, _, q3, q4, q5⟩ := text_tells s a1 e1 R1 p3 (by omega) (k + 2) (by omega) 160 (by omega)
      have hx' : ∀ x ∈ l ++ [(⟨t1, t2⟩ : S44)], x.f0.size ≤ 1000 ∧ x.f1.size ≤ 1000 := by
        intro x hm
        rcases List.mem_append.mp hm with hm | hm
        · exact hx x hm
        · rw [List.mem_singleton] at hm; subst hm; exact ⟨by show t1.size ≤ 1000; omega, by show t2.size ≤ 1000; omega⟩
      have hla : (l.length : Int) ≤ a := hl2 rfl
      have hll : (l ++ [(⟨t1, t2⟩ : S44)]).length = l.length + 1 := by rw [List.length_append]; rfl
      rw [node_Decode.j1, if_pos rfl, if_pos rfl, p1, Option.bind_some, q1, Option.bind_some, if_pos (by omega), wrap_u64, Int.emod_eq_of_lt (by omega) (by omega)]
      by_cases he2 : e2 = 0
      · obtain ⟨u1, u2, u3⟩ := q5 he2
        obtain ⟨_, w2, w3⟩ := p5 u1
        have := q3.h1
        refine ih (k + 2) (c - 1) a2 e2 R2 true _ q3 (by omega) (by omega) (by omega) (by omega) (by rw [hll]; omega) (fun _ => by rw [hll]; omega) hx' (fun _ => ?_)
        obtain ⟨i1, i2, i3⟩ := hI rfl
        refine ⟨by rw [hll]; omega, ?_, by rw [hll, decide_eq_true (by omega)]⟩
        have := u3 _ (w3 _ i2)
        rw [List.flatMap_append]
        simp only [List.flatMap_cons, List.flatMap_nil, List.append_nil, itemBytes]
        simpa only [List.append_assoc] using this
      · exact dec_stop s h2 k 1 _ a2 e2 R2 true _ [] q3 (small_of (by rw [hll]; omega) (by simp) hx' (by simp)) (fun hh => he2 hh.2) (fun he => absurd he he2)
    · rw [show k + 4 = (k + 2) + 2 from rfl]
      refine dec_stop s h2 (k + 2) 1 c a e R b l [] h hs hce (fun he hae hck => ?_)
      obtain ⟨i1, i2, i3⟩ := hI he
      have hc : c = 0 := by by_cases hc : c > 0; exact absurd ⟨hc, he⟩ hce; omega
      rw [hae] at i2
      have hr := (checkR_ok b l [] hck).1
      cases l with
      | nil =>
        rw [i3] at hr
        exact absurd hr (by simp [rightB])
      | cons x r =>
        have hb : b = true := by rw [i3]; exact decide_eq_true (by simp)
        have hcn : cnt = ((x :: r).length : Int) := by omega
        rw [i2.all, hb, hcn]
        simp only [refBytes, List.flatMap_nil, List.append_nil]
        rfl
theorem kid_unfit {t : ByteArray} : kidFits (⟨t, 4096⟩ : S46) = false := by simp [kidFits]
theorem right_fits {b : Bool} {m : List S46} (h : rightB b [] m = true) (x : S46) (hx : x ∈ m) : kidFits x = true := by
  unfold rightB at h
  cases b with
  | true => rw [if_pos rfl] at h; simp at h
  | false =>
    rw [if_neg Bool.false_ne_true] at h
    simp only [Bool.and_eq_true, Bool.not_eq_true', List.any_eq_false] at h
    have := h.2.2.2 x hx
    simpa using this
theorem dec_kids_end (cnt : Int) (k : Nat) (c a e : Int) (R : ByteArray) (m : List S46) (h : Sim s a R) (hs : small [] m) (hce : ¬ (c > 0 ∧ e = 0)) (hc0 : 0 ≤ c)
    (hI : e = 0 → c + m.length = cnt ∧ (Has s a ([2] ++ ((shortB cnt).toList ++ m.flatMap kidBytes)) ∨ ∃ x ∈ m, kidFits x = false)) :
    ∃ r, node_Decode.l0 (k + 2) 2 c s a e false [] m = some r ∧ GoodP s r := by
  refine dec_stop s h2 k 2 c a e R false [] m h hs hce (fun he hae hck => ?_)
  obtain ⟨i1, i2⟩ := hI he
  have hc : c = 0 := by by_cases hc : c > 0; exact absurd ⟨hc, he⟩ hce; omega
  have hr := (checkR_ok false [] m hck).1
  rcases i2 with i2 | ⟨x, hx, hf⟩
  · rw [hae] at i2
    rw [i2.all]
    simp only [refBytes]
    rw [if_neg Bool.false_ne_true, if_neg Bool.false_ne_true, show cnt = (m.length : Int) by omega]
    rfl
  · rw [right_fits s h2 hr x hx] at hf; cases hf
theorem dec_kids (cnt : Int) (d : Nat) : ∀ (k : Nat) (c a e : Int) (R : ByteArray) (m : List S46), Sim s a R → (s.size : Int) - a ≤ d → 2 * d + 30 < k → 0 ≤ c → c < 18446744073709551616 →
    (m.length : Int) ≤ a + 1 → (e = 0 → (m.length : Int) ≤ a) → (∀ x ∈ m, x.f0.size ≤ 1000) → (e = 0 → c + m.length = cnt ∧ (Has s a ([2] ++ ((shortB cnt).toList ++ m.flatMap kidBytes)) ∨ ∃ x ∈ m, kidFits x = false)) →
    ∃ r, node_Decode.l0 k 2 c s a e false [] m = some r ∧ GoodP s r := by
  induction d with
  | zero =>
    intro k c a e R m h hd hk hc0 hc1 hl hl2 hx hI
    obtain ⟨k, rfl⟩ : ∃ q, k = q + 4 := ⟨k - 4, by omega⟩
    have ha := h.h1
    have hs : small [] m := small_of (by simp) (by omega) (by simp) hx
    by_cases hce : c > 0 ∧ e = 0
    · obtain ⟨hc, rfl⟩ := hce
      rw [show k + 4 = (k + 2) + 2 from rfl, dec_round s h2 (k + 2) 2 c a false [] m hc]
      obtain ⟨t1, a1, e1, R1, p1, _, p3, p4, p5⟩ := text_tells s a 0 R h (by omega) (k + 2) (by omega) 272 (by omega)
      obtain ⟨v, a2, e2, R2, q1, _, q3, q4, q5, q6⟩ := short_tells s a1 e1 R1 p3 (by omega) 20 (by omega)
      rw [node_Decode.j1, if_pos rfl, if_neg (by decide), if_pos rfl, p1, Option.bind_some, q1, Option.bind_some, if_pos (by omega)]
      have hne : e2 ≠ 0 := fun he => by
        obtain ⟨u1, u2, _⟩ := q6 he
        obtain ⟨_, w2, _⟩ := p5 u1
        have := q3.h1; omega
      refine dec_stop s h2 k 2 _ a2 e2 R2 false [] _ q3 (small_of (by simp) (by rw [List.length_append]; simp only [List.length_cons, List.length_nil]; omega) (by simp) (fun x hm => ?_)) (fun hh => hne hh.2) (fun he => absurd he hne)
      rcases List.mem_append.mp hm with hm | hm
      · exact hx x hm
      · rw [List.mem_singleton] at hm; subst hm; show t1.size ≤ 1000; omega
    · rw [show k + 4 = (k + 2) + 2 from rfl]
      exact dec_kids_end s h2 cnt (k + 2) c a e R m h hs hce hc0 hI
  | succ d ih =>
    intro k c a e R m h hd hk hc0 hc1 hl hl2 hx hI
    obtain ⟨k, rfl⟩ : ∃ q, k = q + 4 := ⟨k - 4, by omega⟩
    have ha := h.h1
    have hs : small [] m := small_of (by simp) (by omega) (by simp) hx
    by_cases hce : c > 0 ∧ e = 0
    · obtain ⟨hc, rfl⟩ := hce
      rw [show k + 4 = (k + 2) + 2 from rfl, dec_round s h2 (k + 2) 2 c a false [] m hc]
      obtain ⟨t1, a1, e1, R1, p1, _, p3, p4, p5⟩ := text_tells s a 0 R h (by omega) (k + 2) (by omega) 272 (by omega)
      obtain ⟨v, a2, e2, R2, q1, _, q3, q4, q5, q6⟩ := short_tells s a1 e1 R1 p3 (by omega) 20 (by omega)
      have hmn : wrap64 (mn v 4096) = mn v 4096 := by unfold mn; rw [wrap_in]; split <;> omega; split <;> omega
      have hx' : ∀ x ∈ m ++ [(⟨t1, mn v 4096⟩ : S46)], x.f0.size ≤ 1000 := by
        intro x hm
        rcases List.mem_append.mp hm with hm | hm
        · exact hx x hm
        · rw [List.mem_singleton] at hm; subst hm; show t1.size ≤ 1000; omega
      have hla : (m.length : Int) ≤ a := hl2 rfl
      have hll : (m ++ [(⟨t1, mn v 4096⟩ : S46)]).length = m.length + 1 := by rw [List.length_append]; rfl
      rw [node_Decode.j1, if_pos rfl, if_neg (by decide), if_pos rfl, p1, Option.bind_some, q1, Option.bind_some, if_pos (by omega), wrap_u64, Int.emod_eq_of_lt (by omega) (by omega), hmn]
      by_cases he2 : e2 = 0
      · obtain ⟨u1, u2, u3⟩ := q6 he2
        obtain ⟨_, w2, w3⟩ := p5 u1
        have := q3.h1
        refine ih (k + 2) (c - 1) a2 e2 R2 _ q3 (by omega) (by omega) (by omega) (by omega) (by rw [hll]; omega) (fun _ => by rw [hll]; omega) hx' (fun _ => ?_)
        obtain ⟨i1, i2⟩ := hI rfl
        refine ⟨by rw [hll]; omega, ?_⟩
        rcases i2 with i2 | ⟨x, hxm, hf⟩
        · by_cases hv : v < 4096
          · left
            have hq : mn v 4096 = v := by unfold mn; rw [if_neg (by omega)]
            have := u3 _ (w3 _ i2)
            rw [hq, List.flatMap_append]
            simp only [List.flatMap_cons, List.flatMap_nil, List.append_nil, kidBytes]
            rw [Int.emod_eq_of_lt (by omega) (by omega)]
            simpa only [List.append_assoc] using this
          · right
            have hq : mn v 4096 = 4096 := by unfold mn; split <;> omega
            exact ⟨⟨t1, mn v 4096⟩, by simp, by rw [hq]; exact kid_unfit s h2⟩
        · right; exact ⟨x, List.mem_append.mpr (.inl hxm), hf⟩
      · exact dec_stop s h2 k 2 _ a2 e2 R2 false [] _ q3 (small_of (by simp) (by rw [hll]; omega) (by simp) hx') (fun hh => he2 hh.2) (fun he => absurd he he2)
    · rw [show k + 4 = (k + 2) + 2 from rfl]
      exact dec_kids_end s h2 cnt (k + 2) c a e R m h hs hce hc0 hI
theorem dec_other (k : Nat) (x6 c a e : Int) (R : ByteArray) (h : Sim s a R) (h1 : x6 ≠ 1) (h3 : x6 ≠ 2) : ∃ r, node_Decode.l0 (k + 3) x6 c s a e false [] [] = some r ∧ GoodP s r := by
  by_cases hce : c > 0 ∧ e = 0
  · obtain ⟨hc, rfl⟩ := hce
    rw [show k + 3 = (k + 1) + 2 from rfl, dec_round s h2 (k + 1) x6 c a false [] [] hc, node_Decode.j1, if_pos rfl, if_neg h1, if_neg h3]
    exact ⟨_, rfl, .no s⟩
  · exact dec_stop s h2 (k + 1) x6 c a e R false [] [] h (small_of (by simp) (by simp) (by simp) (by simp)) hce (fun _ _ hck => absurd (checkR_ok false [] [] hck).1 (by simp [rightB]))
theorem decode_ok (k : Nat) (hk : 9000 ≤ k) : ∃ r, node_Decode.f k s = some r ∧ GoodP s r := by
  unfold node_Decode.f pack_Read.f
  obtain ⟨v, a1, e1, R1, p1, _, p3, p4, p5⟩ := byte_both s 0 0 s (Sim.start s) (by omega)
  obtain ⟨c, a2, e2, R2, q1, _, q3, q4, q5, q6⟩ := short_tells s a1 e1 R1 p3 (by omega) 20 (by omega)
  rw [Option.bind_some, p1, Option.bind_some, q1, Option.bind_some]
  have hst : e2 = 0 → Has s a2 ([ub v] ++ (shortB c).toList) := fun he => by
    obtain ⟨u1, u2, u3⟩ := q6 he
    obtain ⟨_, w2, w3⟩ := p5 u1
    have := (Has.start s).more (by omega) w2 p3.h1 w3
    rw [toList_nums] at this
    exact u3 _ this
  have ha := q3.h1
  have ha0 := q3.h0
  by_cases c1 : v = 1
  · subst c1
    refine dec_leaf s h2 c 4096 k c a2 e2 R2 false [] q3 (by omega) (by omega) q4 q5 (by simp only [List.length_nil]; omega) (fun _ => by simp only [List.length_nil]; omega) (by simp) (fun he => ⟨by simp, ?_, rfl⟩)
    have := hst he
    rw [List.flatMap_nil, List.append_nil]
    exact this
  by_cases c2 : v = 2
  · subst c2
    refine dec_kids s h2 c 4096 k c a2 e2 R2 [] q3 (by omega) (by omega) q4 q5 (by simp only [List.length_nil]; omega) (fun _ => by simp only [List.length_nil]; omega) (by simp) (fun he => ⟨by simp, .inl ?_⟩)
    have := hst he
    rw [List.flatMap_nil, List.append_nil]
    exact this
  obtain ⟨k, rfl⟩ : ∃ q, k = q + 3 := ⟨k - 3, by omega⟩
  exact dec_other s h2 k v c a2 e2 R2 q3 c1 c2
end
end Go.Proofs.Ytdkbikaheagbfaa.NodeP
