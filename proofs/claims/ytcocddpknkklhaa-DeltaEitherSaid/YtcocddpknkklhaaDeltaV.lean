import Derived.Test.YtcocddpknkklhaaPAx10
import Derived.Test.YtcocddpknkklhaaPAx11
import Derived.Test.YtcocddpknkklhaaPAx12
import Derived.Test.YtcocddpknkklhaaPAx14
import Derived.Test.YtcocddpknkklhaaPAx17
import Derived.Test.YtcocddpknkklhaaPAx18
import Derived.Test.YtcocddpknkklhaaPAx19
import Derived.Test.YtcocddpknkklhaaPAx8
import Derived.Test.YtcocddpknkklhaaPAx9
import Derived.Test.YtcocddpknkklhaaDeltaW
/-! Changes that are apart: what they touch is told of any texts. -/
set_option linter.unusedVariables false
set_option linter.unusedSimpArgs false
set_option linter.unusedSectionVars false
namespace Go.Proofs.Ytcocddpknkklhaa.DeltaP
open Go.RowKit Go.Proofs.Ytcocddpknkklhaa.PA Go.Proofs.YtcocddpknkklhaaW.PrintWords Go.Proofs.YtcocddpknkklhaaW.PrintLast Go.Proofs.YtcocddpknkklhaaW.PrintMore
open Go.Proofs.Ytcocddpknkklhaa.Plain Go.Proofs.Ytcocddpknkklhaa.MergeP
theorem u64_in (n : Int) : 0 ≤ IntKind.u64.wrap n ∧ IntKind.u64.wrap n < 18446744073709551616 := by rw [wrap_u64]; omega
theorem fixed_some (n : Int) : ∃ t, pack_Fixed.f (IntKind.u64.wrap n) = some t ∧ t.size = 8 := by
  unfold pack_Fixed.f
  rw [if_pos (u64_in n)]
  exact ⟨_, rfl, by rw [strOfNums_size]; rfl⟩
theorem numbered_some (a b : Int) : ∃ t, key_numbered.f a b = some t ∧ t.size = 9 := by
  unfold key_numbered.f
  obtain ⟨t, h, hs⟩ := fixed_some b
  rw [Option.bind_some, h, Option.bind_some, if_pos (by rw [strOfNums_size, hs]; simp)]
  exact ⟨_, rfl, by rw [ByteArray.size_append, strOfNums_size, hs]; rfl⟩
theorem make_j0 (k : Nat) (x4 : ByteArray) (b : Bool) (a0 a1 : Int) (a2 : ByteArray) (a3 : Int) (h4 : x4.size = 9) (h2 : a2.size ≤ 1000000) : ∃ t e, key_Make.j0 (k + 1) x4 b a0 a1 a2 a3 0 0 a2 a3 = some (t, e) ∧ t.size ≤ 1000100 := by
  obtain ⟨tf, hf, hs⟩ := fixed_some a3
  have hz : (⟨#[]⟩ : ByteArray).size ≤ 1000100 := Nat.zero_le _
  have h1 : (strOfNums [a0]).size ≤ 1000100 := by rw [strOfNums_size]; simp
  have hA : (x4 ++ a2).size ≤ 1000100 := by rw [ByteArray.size_append]; omega
  have hB : (x4 ++ tf).size ≤ 1000100 := by rw [ByteArray.size_append]; omega
  have hC : x4.size + a2.size ≤ 9223372036854775807 := by omega
  have hD : x4.size + tf.size ≤ 9223372036854775807 := by omega
  have h9 : x4.size ≤ 1000100 := by omega
  simp only [key_Make.j0]
  rw [hf, if_pos hC]
  simp only [Option.bind_some]
  rw [if_pos hD]
  repeat' split
  all_goals first | exact ⟨_, _, rfl, hz⟩ | exact ⟨_, _, rfl, h1⟩ | exact ⟨_, _, rfl, hA⟩ | exact ⟨_, _, rfl, hB⟩ | exact ⟨_, _, rfl, h9⟩
theorem make_some (k : Nat) (a0 a1 : Int) (a2 : ByteArray) (a3 : Int) (h2 : a2.size ≤ 1000000) : ∃ t e, key_Make.f (k + 1) a0 a1 a2 a3 = some (t, e) ∧ t.size ≤ 1000100 := by
  unfold key_Make.f
  obtain ⟨x4, hx, hs⟩ := numbered_some a0 a1
  rw [hx, Option.bind_some]
  split
  · exact make_j0 k x4 _ a0 a1 a2 a3 hs h2
  · exact make_j0 k x4 _ a0 a1 a2 a3 hs h2
theorem make_ino (k : Nat) (a1 : Int) : ∃ t e, key_Make.f (k + 1) 105 a1 (⟨#[]⟩ : ByteArray) 0 = some (t, e) ∧ t.size ≤ 1000000 := by
  unfold key_Make.f
  obtain ⟨x4, hx, hs⟩ := numbered_some 105 a1
  have hz : (⟨#[]⟩ : ByteArray).size ≤ 1000000 := Nat.zero_le _
  have h9 : x4.size ≤ 1000000 := by omega
  rw [hx, Option.bind_some]
  have key : ∀ b : Bool, ∃ t e, key_Make.j0 (k + 1) x4 b 105 a1 (⟨#[]⟩ : ByteArray) 0 0 0 (⟨#[]⟩ : ByteArray) 0 = some (t, e) ∧ t.size ≤ 1000000 := by
    intro b
    simp only [key_Make.j0]
    rw [if_neg (by decide), if_neg (by decide), if_neg (by decide), if_neg (by decide), if_pos trivial]
    repeat' split
    all_goals first | exact ⟨_, _, rfl, hz⟩ | exact ⟨_, _, rfl, h9⟩
  split
  · exact key _
  · exact key _
section
variable (s : ByteArray) (hs : s.size ≤ 1000000)
include hs
theorem take_some (a e n : Int) (h0 : 0 ≤ a) (h1 : a ≤ s.size) (hn : 0 ≤ n ∧ n ≤ 8) : ∃ t a' e', pack_Reader_take.f s a e n = some (t, s, a', e') ∧ 0 ≤ a' ∧ a' ≤ s.size ∧ t.size ≤ 8 := by
  unfold pack_Reader_take.f pack_Reader_fails.f
  rw [Option.bind_some]
  by_cases he : (e != 0) = true
  · rw [if_pos he]
    exact ⟨_, _, _, rfl, h0, h1, Nat.zero_le _⟩
  · rw [if_neg he]
    by_cases h : n > wrap64 ((s.size : Int) - a)
    · rw [if_pos h]
      exact ⟨_, _, _, rfl, h0, h1, Nat.zero_le _⟩
    · rw [if_neg h]
      have w1 : wrap64 ((s.size : Int) - a) = (s.size : Int) - a := wrap_in (by omega) (by omega)
      have w2 : wrap64 (a + n) = a + n := wrap_in (by omega) (by omega)
      have w3 : wrap64 (a + n - n) = a + n - n := wrap_in (by omega) (by omega)
      rw [w1] at h
      simp only [w2, w3]
      rw [if_pos (by omega), if_pos (by omega), if_pos (by omega)]
      exact ⟨_, _, _, rfl, by omega, by omega, by rw [ByteArray.size_extract]; omega⟩
theorem byte_some (a e : Int) (h0 : 0 ≤ a) (h1 : a ≤ s.size) : ∃ v a' e', pack_Reader_Byte.f s a e = some (v, s, a', e') ∧ 0 ≤ a' ∧ a' ≤ s.size := by
  unfold pack_Reader_Byte.f
  obtain ⟨t, a', e', h, h2, h3, _⟩ := take_some s hs a e 1 h0 h1 ⟨by omega, by omega⟩
  rw [h, Option.bind_some]
  by_cases hc : t.toList = ([] : List UInt8)
  · rw [if_pos hc]; exact ⟨_, _, _, rfl, h2, h3⟩
  · rw [if_neg hc]
    have hp : 0 < t.size := by
      rcases Nat.eq_zero_or_pos t.size with h0 | h0
      · exfalso
        apply hc
        rw [ByteArray.toList_eq]
        have : t.data.toList.length = 0 := by simpa using h0
        exact List.length_eq_zero_iff.1 this
      · exact h0
    rw [if_pos (show (0 : Int) < (t.size : Int) by omega)]
    exact ⟨_, _, _, rfl, h2, h3⟩
omit hs in
theorem fixed_l0 (t : ByteArray) (a e : Int) (n : Nat) : ∀ (k j : Nat) (v : Int), n = t.size - j → n < k → j ≤ t.size → t.size ≤ 8 → ∃ v', pack_Reader_Fixed.l0 k v t (t.size : Int) (j : Int) s a e = some (v', s, a, e) := by
  induction n with
  | zero =>
    intro k j v hn hk hj ht
    obtain ⟨k, rfl⟩ : ∃ q, k = q + 1 := ⟨k - 1, by omega⟩
    simp only [pack_Reader_Fixed.l0]
    rw [if_neg (by omega)]
    exact ⟨_, rfl⟩
  | succ n ih =>
    intro k j v hn hk hj ht
    obtain ⟨k, rfl⟩ : ∃ q, k = q + 1 := ⟨k - 1, by omega⟩
    simp only [pack_Reader_Fixed.l0]
    rw [if_pos (by omega), if_pos (by omega), if_pos (by omega), wrapn (by omega)]
    exact ih k (j + 1) _ (by omega) (by omega) (by omega) ht
theorem fix_some (k : Nat) (hk : 10 ≤ k) (a e : Int) (h0 : 0 ≤ a) (h1 : a ≤ s.size) : ∃ v a' e', pack_Reader_Fixed.f k s a e = some (v, s, a', e') ∧ 0 ≤ a' ∧ a' ≤ s.size := by
  unfold pack_Reader_Fixed.f
  obtain ⟨t, a', e', h, h2, h3, h4⟩ := take_some s hs a e 8 h0 h1 ⟨by omega, by omega⟩
  rw [h, Option.bind_some]
  obtain ⟨v, hv⟩ := fixed_l0 s t a' e' t.size k 0 0 (by omega) (by omega) (by omega) h4
  exact ⟨v, a', e', hv, h2, h3⟩
theorem left_some (a e : Int) (h0 : 0 ≤ a) (h1 : a ≤ s.size) : ∃ v, pack_Reader_Left.f s a e = some (v, s, a, e) ∧ 0 ≤ v ∧ v ≤ s.size := by
  unfold pack_Reader_Left.f pack_Reader_fails.f
  rw [Option.bind_some]
  by_cases he : (e != 0) = true
  · rw [if_pos he]; exact ⟨0, rfl, by omega, by omega⟩
  · rw [if_neg he]
    have w1 : wrap64 ((s.size : Int) - a) = (s.size : Int) - a := wrap_in (by omega) (by omega)
    exact ⟨_, by rw [show wrap64 (((s, a, e) : ByteArray × Int × Int).1.size - a) = (s.size : Int) - a from w1], by omega, by omega⟩
theorem parse_j1 (k : Nat) (a e x0 x1 : Int) (x2 : ByteArray) (x3 : Int) (h2 : x2.size ≤ 1000000) : ∃ r, key_Parse.j1 (k + 2) s s a e x0 x1 x2 x3 = some r := by
  simp only [key_Parse.j1]
  obtain ⟨t, e', h, _⟩ := make_some k x0 x1 x2 x3 h2
  unfold pack_Reader_Err.f
  rw [h, Option.bind_some, Option.bind_some]
  repeat' split
  all_goals exact ⟨_, rfl⟩
theorem parse_j0 (k : Nat) (hk : 10 ≤ k) (a e x0 x1 : Int) (h0 : 0 ≤ a) (h1 : a ≤ s.size) : ∃ r, key_Parse.j0 (k + 3) s s a e x0 x1 (⟨#[]⟩ : ByteArray) 0 = some r := by
  have hz : (⟨#[]⟩ : ByteArray).size ≤ 1000000 := Nat.zero_le _
  obtain ⟨v, hv, v0, v1⟩ := left_some s hs a e h0 h1
  have w1 : wrap64 ((s.size : Int) - v) = (s.size : Int) - v := wrap_in (by omega) (by omega)
  have hname : ∃ r, ((pack_Reader_Left.f s a e).bind fun bt166 => (if 0 ≤ (wrap64 ((s.size : Int) - bt166.1)) then (if (wrap64 ((s.size : Int) - bt166.1)) ≤ (s.size : Int) then (key_Parse.j1 (k + 2) s bt166.2.1 bt166.2.2.1 bt166.2.2.2 x0 x1 (s.extract ((wrap64 ((s.size : Int) - bt166.1)) : Int).toNat s.size) 0) else (none)) else (none))) = some r := by
    rw [hv, Option.bind_some]
    simp only [w1]
    rw [if_pos (by omega), if_pos (by omega)]
    exact parse_j1 s hs k a e x0 x1 _ 0 (by rw [ByteArray.size_extract]; omega)
  simp only [key_Parse.j0]
  by_cases c1 : x0 = 112
  · rw [if_pos c1]
    obtain ⟨f, a', e', hf, _, _⟩ := fix_some s hs (k + 2) (by omega) a e h0 h1
    rw [hf, Option.bind_some]
    exact parse_j1 s hs k a' e' x0 x1 _ _ hz
  · rw [if_neg c1]
    by_cases c2 : x0 = 100
    · rw [if_pos c2]; exact hname
    · rw [if_neg c2]
      by_cases c3 : x0 = 120
      · rw [if_pos c3]; exact hname
      · rw [if_neg c3]; exact parse_j1 s hs k a e x0 x1 _ 0 hz
theorem parse_some (k : Nat) (hk : 20 ≤ k) : ∃ r, key_Parse.f k s = some r := by
  obtain ⟨k, rfl⟩ : ∃ q, k = q + 3 := ⟨k - 3, by omega⟩
  unfold key_Parse.f pack_Read.f
  rw [Option.bind_some]
  obtain ⟨v, a', e', h, h0, h1⟩ := byte_some s hs 0 0 (by omega) (by omega)
  rw [h, Option.bind_some]
  by_cases c : v = 110
  · rw [if_pos c]; exact parse_j0 s hs k (by omega) a' e' v 0 h0 h1
  · rw [if_neg c]
    obtain ⟨f, a2, e2, hf, g0, g1⟩ := fix_some s hs (k + 3) (by omega) a' e' h0 h1
    rw [hf, Option.bind_some]
    exact parse_j0 s hs k (by omega) a2 e2 v _ g0 g1
theorem touches_some (k : Nat) (hk : 20 ≤ k) : ∃ t, delta_touches.f k s = some t ∧ t.size ≤ 1000000 := by
  unfold delta_touches.f
  obtain ⟨r, hr⟩ := parse_some s hs k hk
  rw [hr, Option.bind_some]
  have key : ∀ b, ∃ t, delta_touches.j0 k s b r.1 r.2.1 r.2.2.1 r.2.2.2.1 = some t ∧ t.size ≤ 1000000 := by
    intro b
    obtain ⟨k, rfl⟩ : ∃ q, k = q + 2 := ⟨k - 2, by omega⟩
    simp only [delta_touches.j0]
    obtain ⟨t, e, h, ht⟩ := make_ino k r.2.1
    rw [h, Option.bind_some]
    repeat' split
    all_goals first | exact ⟨_, rfl, Nat.zero_le _⟩ | exact ⟨_, rfl, hs⟩ | exact ⟨_, rfl, ht⟩
  split
  · exact key _
  · exact key _
end
theorem tl_some (k : Nat) (hk : 20 ≤ k) : ∀ l : List Ch, (∀ x ∈ l, x.f0.size ≤ 1000000) → ∃ t, delta_Apart.tl k l = some t ∧ delta_Apart.ok l t = true ∧ t.length = l.length
  | [], _ => ⟨[], rfl, rfl, rfl⟩
  | x :: r, h => by
    obtain ⟨t, h1, h2, h3⟩ := tl_some k hk r (fun y hy => h y (.tail _ hy))
    obtain ⟨s, g1, g2⟩ := touches_some x.f0 (h x (.head _)) k hk
    refine ⟨s :: t, ?_, ?_, by simp [h3]⟩
    · unfold delta_Apart.tl
      rw [g1, Option.bind_some, h1, Option.bind_some]
    · show ((decide (x.f0.size ≤ 1000000) && decide (s.size ≤ 1000000)) && delta_Apart.ok r t) = true
      rw [decide_eq_true (h x (.head _)), decide_eq_true g2, h2]
      rfl
theorem eqk_ne (x : Ch) : delta_Apart.eqk x ≠ (⟨#[]⟩ : ByteArray) := by
  intro h
  have := congrArg ByteArray.size h
  unfold delta_Apart.eqk at this
  rw [ByteArray.size_append] at this
  have e1 : (⟨#[61]⟩ : ByteArray).size = 1 := rfl
  have e2 : (⟨#[]⟩ : ByteArray).size = 0 := rfl
  omega
theorem met_mem : ∀ (c : List Ch) (t : List ByteArray) (x : Ch), t.length = c.length → x ∈ c → delta_Apart.met c t (delta_Apart.eqk x) = true
  | y :: r, s :: t, x, hl, hx => by
    show ((decide (delta_Apart.eqk x = s) || decide (delta_Apart.eqk x = delta_Apart.eqk y)) || delta_Apart.met r t (delta_Apart.eqk x)) = true
    rcases List.mem_cons.1 hx with rfl | hx
    · rw [decide_eq_true (rfl : delta_Apart.eqk x = delta_Apart.eqk x)]; simp
    · rw [met_mem r t x (by simpa using hl) hx]; simp
theorem hit_mem (m : ByteArray → Bool) : ∀ (c : List Ch) (t : List ByteArray) (x : Ch), t.length = c.length → x ∈ c → m (delta_Apart.eqk x) = true → delta_Apart.hit m c t = true
  | y :: r, s :: t, x, hl, hx, hm => by
    show ((m (delta_Apart.eqk y) || m s) || delta_Apart.hit m r t) = true
    rcases List.mem_cons.1 hx with rfl | hx
    · rw [hm]; simp
    · rw [hit_mem m r t x (by simpa using hl) hx hm]; simp
/-- Where delta.Apart says yes, no key is in both. -/
theorem apart_f (k : Nat) (hk : 20 ≤ k) (c d : List Ch) (hc : c.length ≤ 1000000) (hd : d.length ≤ 1000000) (zc : ∀ x ∈ c, x.f0.size ≤ 1000000) (zd : ∀ x ∈ d, x.f0.size ≤ 1000000) :
    ∃ b e, delta_Apart.f k c d = some (b, e) ∧ (b = true → rightL c = true ∧ rightL d = true ∧ ∀ q, MergeP.get ck q c = none ∨ MergeP.get ck q d = none) := by
  unfold delta_Apart.f
  rw [if_pos ⟨by omega, by omega⟩, check_eq, check_eq]
  by_cases hr : (rightL c && rightL d) = true
  · rw [if_pos hr]
    obtain ⟨tc, h1, h2, h3⟩ := tl_some k hk c zc
    obtain ⟨td, g1, g2, g3⟩ := tl_some k hk d zd
    rw [h1, Option.bind_some, g1, Option.bind_some, if_pos (by rw [h2, g2]; rfl)]
    refine ⟨_, _, rfl, fun hb => ?_⟩
    rw [Bool.and_eq_true] at hr
    refine ⟨hr.1, hr.2, fun q => ?_⟩
    cases e1 : MergeP.get ck q c with
    | none => exact .inl rfl
    | some x =>
      cases e2 : MergeP.get ck q d with
      | none => exact .inr rfl
      | some y =>
        exfalso
        obtain ⟨k1, m1⟩ := get_key e1
        obtain ⟨k2, m2⟩ := get_key e2
        have he : delta_Apart.eqk y = delta_Apart.eqk x := by
          unfold delta_Apart.eqk
          rw [show y.f0 = x.f0 from k2.trans k1.symm]
        have hm : delta_Apart.mm c tc (delta_Apart.eqk y) = true := by
          unfold delta_Apart.mm
          rw [decide_eq_false (eqk_ne y), he, met_mem c tc x h3 m1]
          rfl
        rw [hit_mem _ d td y g3 m2 hm] at hb
        cases hb
  · rw [if_neg hr]
    exact ⟨_, _, rfl, fun h => by cases h⟩
end Go.Proofs.Ytcocddpknkklhaa.DeltaP
