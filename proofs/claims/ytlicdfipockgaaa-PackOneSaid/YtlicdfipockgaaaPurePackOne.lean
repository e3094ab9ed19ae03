/- PackOne: a number and a text that were read have just these bytes: for every text (the law itself lets go those above 2^16 bytes) and every bound. -/
import Derived.Test.YtlicdfipockgaaaPAx10
import Derived.Test.YtlicdfipockgaaaPack
namespace Go.Proofs.Ytlicdfipockgaaa.PureOne
open Go.RowKit Go.Proofs.Ytlicdfipockgaaa.PA Go.Proofs.YtlicdfipockgaaaW.PrintWords Go.Proofs.YtlicdfipockgaaaW.PrintLast Go.Proofs.YtlicdfipockgaaaW.PrintMore
open Go.Proofs.Ytlicdfipockgaaa.Plain Go.Proofs.Ytlicdfipockgaaa.PackP

theorem awake_true : coppicelaw02_awake.f = some true := by decide +kernel
theorem i64_bounds (a : Int) (h : (Lit.int .i64 a).wf = true) : -9223372036854775808 ≤ a ∧ a ≤ 9223372036854775807 := by
  simp [Lit.wf, IntKind.min, IntKind.max, IntKind.signed, IntKind.bits] at h; omega
theorem fixedNums_val (b0 b1 b2 b3 b4 b5 b6 b7 : Int) (h1 : 0 ≤ b1 ∧ b1 < 256) (h2 : 0 ≤ b2 ∧ b2 < 256) (h3 : 0 ≤ b3 ∧ b3 < 256) (h4 : 0 ≤ b4 ∧ b4 < 256) (h5 : 0 ≤ b5 ∧ b5 < 256) (h6 : 0 ≤ b6 ∧ b6 < 256) (h7 : 0 ≤ b7 ∧ b7 < 256) :
    fixedNums (val [b0, b1, b2, b3, b4, b5, b6, b7]) = [b0, b1, b2, b3, b4, b5, b6, b7] := by
  simp only [fixedNums, val, List.length_cons, List.length_nil, List.cons.injEq, and_true]
  refine ⟨?_, ?_, ?_, ?_, ?_, ?_, ?_, ?_⟩ <;> omega
theorem fixed_extract (s : ByteArray) (h : 8 ≤ s.size) : strOfNums (fixedNums (fixedVal s 0)) = s.extract 0 8 := by
  unfold fixedVal
  rw [fixedNums_val _ _ _ _ _ _ _ _ (bt_lt _ _) (bt_lt _ _) (bt_lt _ _) (bt_lt _ _) (bt_lt _ _) (bt_lt _ _) (bt_lt _ _)]
  have := extract_nums s 0 [bt s 0, bt s (0 + 1), bt s (0 + 2), bt s (0 + 3), bt s (0 + 4), bt s (0 + 5), bt s (0 + 6), bt s (0 + 7)] (by
    intro x hx
    simp only [List.mem_cons, List.not_mem_nil, or_false] at hx
    rcases hx with rfl | rfl | rfl | rfl | rfl | rfl | rfl | rfl <;> exact bt_lt _ _) (by simpa using h) (by
    intro j hj
    have hc : j = 0 ∨ j = 1 ∨ j = 2 ∨ j = 3 ∨ j = 4 ∨ j = 5 ∨ j = 6 ∨ j = 7 := by simp at hj; omega
    rcases hc with rfl | rfl | rfl | rfl | rfl | rfl | rfl | rfl <;> rfl)
  rw [← this]
  rfl
theorem fixed_writes (s : ByteArray) (c : 8 ≤ s.size) : pack_Fixed.f (fixedVal s 0) = some (s.extract 0 8) := by
  unfold pack_Fixed.f
  rw [if_pos (fixedVal_range s 0), fixed_extract s c]
theorem read_ (s : ByteArray) : pack_Read.f s = some (s, 0, 0) := rfl
theorem err_ (s : ByteArray) (a e : Int) : pack_Reader_Err.f s a e = some (e, s, a, e) := rfl
theorem j1_long (s : ByteArray) (hs : s.size ≤ 4611686018427387904) (k : Nat) (hk : 8 < k) (c : 8 ≤ s.size) : coppicelaw02_PackOne.j1 (k + 1) s false = some true := by
  have h1 := fixed_ok s 0 (by omega) (by omega) hs k hk (by omega)
  have h2 := left_ok s 8 (by omega) (by omega) hs
  have h3 := fixed_writes s c
  rw [Int.zero_add] at h1
  generalize fixedVal s 0 = v at *
  have g1 : (s.size : Int) ≥ 8 := by omega
  rw [coppicelaw02_PackOne.j1, if_neg (by decide), read_, Option.bind_some, h1, Option.bind_some, err_, Option.bind_some, if_pos rfl, if_pos g1, h3, Option.bind_some, if_pos (by decide), if_pos g1, if_pos rfl, h2, Option.bind_some, w64 _ (by omega) (by omega)]
  exact congrArg some (beq_self_eq_true _)
theorem j1_short (s : ByteArray) (hs : s.size ≤ 4611686018427387904) (k : Nat) (hk : 8 < k) (c : ¬ 8 ≤ s.size) : coppicelaw02_PackOne.j1 (k + 1) s false = some true := by
  have h1 := fixed_short s 0 (by omega) (by omega) hs k (by omega) (by omega)
  have g1 : (s.size : Int) < 8 := by omega
  rw [coppicelaw02_PackOne.j1, if_neg (by decide), read_, Option.bind_some, h1, Option.bind_some, err_, Option.bind_some, if_neg (show ¬ ((20 : Int) = 0) by decide), if_pos g1]
theorem j1_ok (s : ByteArray) (hs : s.size ≤ 4611686018427387904) (k : Nat) (hk : 9 < k) : coppicelaw02_PackOne.j1 k s false = some true := by
  obtain ⟨k, rfl⟩ : ∃ m, k = m + 1 := ⟨k - 1, by omega⟩
  by_cases c : 8 ≤ s.size
  · exact j1_long s hs k (by omega) c
  · exact j1_short s hs k (by omega) c
theorem text_writes (s : ByteArray) (hs : s.size ≤ 4611686018427387904) (n at' : Int) (hn0 : 0 ≤ n) (ha : 0 ≤ at') (hle : at' + n ≤ s.size) (hx : s.extract (0 : Int).toNat at'.toNat = strOfNums (shortNums 9 n)) :
    pack_Text.f (s.extract at'.toNat (at' + n).toNat) = some (s.extract 0 (at' + n).toNat) ∧ (s.extract at'.toNat (at' + n).toNat).size = n.toNat := by
  have hz : (s.extract at'.toNat (at' + n).toNat).size = n.toNat := by rw [ByteArray.size_extract]; omega
  refine ⟨?_, hz⟩
  unfold pack_Text.f
  rw [if_pos (by omega), hz]
  have e1 : ((n.toNat : Nat) : Int) = n := by omega
  rw [e1, ← hx]
  congr 1
  rw [show (0 : Int).toNat = 0 from rfl]
  have hzz : (s.extract 0 (at' + n).toNat).size = (at' + n).toNat := by rw [ByteArray.size_extract]; omega
  have hz0 : (s.extract 0 at'.toNat).size = at'.toNat := by rw [ByteArray.size_extract]; omega
  apply ba_ext
  · rw [ByteArray.size_append, hz0, hz, hzz]; omega
  · intro i hi
    rw [ByteArray.size_append, hz0, hz] at hi
    rw [bt_extract s 0 (at' + n).toNat i (by omega)]
    rcases Nat.lt_or_ge i at'.toNat with h | h
    · rw [bt_append_left _ _ i (by omega), bt_extract s 0 at'.toNat i (by omega)]
    · obtain ⟨j, rfl⟩ : ∃ j, i = at'.toNat + j := ⟨i - at'.toNat, by omega⟩
      have := bt_append_right (s.extract 0 at'.toNat) (s.extract at'.toNat (at' + n).toNat) j (by omega)
      rw [hz0] at this
      rw [this, bt_extract s at'.toNat (at' + n).toNat j (by omega)]
      congr 1
      omega
theorem j0_ok (s : ByteArray) (most : Int) (hs : s.size ≤ 4611686018427387904) (hm : -9223372036854775808 ≤ most ∧ most ≤ 9223372036854775807) (k : Nat) (hk : 10 < k) : coppicelaw02_PackOne.j0 k s most false = some true := by
  obtain ⟨k, rfl⟩ : ∃ m, k = m + 1 := ⟨k - 1, by omega⟩
  have hj := j1_ok s hs k (by omega)
  rw [coppicelaw02_PackOne.j0, if_neg (by decide), read_, Option.bind_some]
  have z0 : (0 : Int) ≤ (s.size : Int) := by omega
  obtain ⟨n, at', e, hr, he⟩ := rsl_cases s 0 9 0 0 (by omega)
  replace hr : rsl s 0 10 0 0 = some (n, s, at', e) := hr
  by_cases c0 : e = 0
  · subst c0
    obtain ⟨hn0, hn1, hat, hle, hx⟩ := rsl_read s 0 (by omega) z0 n at' hr
    by_cases c1 : most < 0 ∨ n > most
    · rw [text_long s 0 (by omega) z0 hs k (by omega) most n at' hm hr c1, Option.bind_some, err_, Option.bind_some, if_neg (show ¬ ((22 : Int) = 0) by decide)]
      exact hj
    by_cases c2 : n > s.size - at'
    · rw [text_short s 0 (by omega) z0 hs k (by omega) most n at' hm hr (by omega) c2, Option.bind_some, err_, Option.bind_some, if_neg (show ¬ ((20 : Int) = 0) by decide)]
      exact hj
    obtain ⟨hT, hz⟩ := text_writes s hs n at' hn0 (by omega) (by omega) hx
    have h2 := left_ok s (at' + n) (by omega) (by omega) hs
    have e2 : wrap64 ((s.size : Int) - ((s.size : Int) - (at' + n))) = at' + n := by rw [w64 _ (by omega) (by omega)]; omega
    rw [text_ok s 0 (by omega) z0 hs k (by omega) most n at' hm hr (by omega) (by omega), Option.bind_some, err_, Option.bind_some, if_pos rfl, hT, Option.bind_some, h2, Option.bind_some, e2, if_pos (by omega), if_pos (by omega), if_pos rfl, hz, decide_eq_false (by omega)]
    exact hj
  · rw [text_err s 0 (by omega) z0 hs k most n at' e hr c0, Option.bind_some, err_, Option.bind_some, if_neg c0]
    exact hj
theorem PackOne : coppicelaw02_PackOne.Pure := by
  intro s most hs hm
  have hm := i64_bounds most hm
  refine ⟨20, ?_⟩
  unfold coppicelaw02_PackOne.f
  rw [awake_true, Option.bind_some, if_pos rfl]
  by_cases c : (s.size : Int) > 65536
  · rw [if_pos c]
  have hs' : s.size ≤ 4611686018427387904 := by omega
  have z0 : (0 : Int) ≤ (s.size : Int) := by omega
  have hj := j0_ok s most hs' hm 20 (by omega)
  obtain ⟨n, at', e, hr, he⟩ := rsl_cases s 0 9 0 0 (by omega)
  replace hr : rsl s 0 10 0 0 = some (n, s, at', e) := hr
  rw [if_neg c, read_, Option.bind_some, short_ok s 0 (by omega) z0 hs', hr, Option.bind_some, err_, Option.bind_some]
  by_cases c0 : e = 0
  · subst c0
    obtain ⟨hn0, hn1, hat, hle, hx⟩ := rsl_read s 0 (by omega) z0 n at' hr
    have hS : pack_Short.f n = some (s.extract 0 at'.toNat) := by unfold pack_Short.f; rw [if_pos ⟨hn0, hn1⟩, ← hx]; rfl
    have h2 := left_ok s at' (by omega) (by omega) hs'
    have e2 : wrap64 ((s.size : Int) - ((s.size : Int) - at')) = at' := by rw [w64 _ (by omega) (by omega)]; omega
    rw [if_pos rfl, hS, Option.bind_some, h2, Option.bind_some, e2, if_pos (by omega), if_pos (by omega), bne_self_eq_false]
    exact hj
  · rw [if_neg c0]
    exact hj
end Go.Proofs.Ytlicdfipockgaaa.PureOne
namespace Go.Proofs.Ytlicdfipockgaaa.Pure
theorem PackOne : Go.Proofs.Ytlicdfipockgaaa.PA.coppicelaw02_PackOne.Pure := Go.Proofs.Ytlicdfipockgaaa.PureOne.PackOne
end Go.Proofs.Ytlicdfipockgaaa.Pure
