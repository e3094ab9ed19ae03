/- PackCuts: of no beginning of a number's or a text's bytes one is read; what is wanting is told. -/
import Derived.Test.YtlicdfipockgaaaPAx20
import Derived.Test.YtlicdfipockgaaaPackAt
import Derived.Test.YtlicdfipockgaaaPackLeft
namespace Go.Proofs.Ytlicdfipockgaaa.PureCuts
open Go.RowKit Go.Proofs.Ytlicdfipockgaaa.PA Go.Proofs.YtlicdfipockgaaaW.PrintWords Go.Proofs.YtlicdfipockgaaaW.PrintLast Go.Proofs.YtlicdfipockgaaaW.PrintMore
open Go.Proofs.Ytlicdfipockgaaa.Plain Go.Proofs.Ytlicdfipockgaaa.PackP

theorem awake_true : coppicelaw02_awake.f = some true := by decide +kernel
theorem u64_bounds (a : Int) (h : (Lit.int .u64 a).wf = true) : 0 ≤ a ∧ a < 18446744073709551616 := by
  simp [Lit.wf, IntKind.min, IntKind.max, IntKind.signed, IntKind.bits] at h; omega
/-- A short number whose last bytes are wanting isn't read. -/
theorem rsl_cut (s : ByteArray) : ∀ (k i : Nat) (n m : Int), k + i = 9 → (0 < i → 0 < m) → i ≤ s.size → s.size < i + (shortNums k m).length →
    (∀ (j : Nat) (hj : j < (shortNums k m).length), i + j < s.size → bt s ((i : Int) + (j : Int)) = (shortNums k m)[j]) →
    rsl s 0 (k + 1) (i : Int) n = some (0, s, 0, 20) := by
  intro k
  induction k with
  | zero =>
    intro i n m hki hmp hle hsz h
    have e : (shortNums 0 m).length = 1 := rfl
    rw [rsl, if_pos (by omega)]
  | succ k ih =>
    intro i n m hki hmp hle hsz h
    by_cases c1 : i = s.size
    · rw [rsl, if_pos (by omega)]
    by_cases c : 127 < m
    · have e : shortNums (k + 1) m = (m % 128 + 128) :: shortNums k (m / 128) := by rw [shortNums, if_pos c]
      have hb := h 0 (by simp [e]) (by omega)
      simp only [e, List.getElem_cons_zero, List.length_cons] at hb hsz
      have hb' : bt s (0 + (i : Int)) = m % 128 + 128 := by rw [← hb]; congr 1; omega
      have hcast : (i : Int) + 1 = ((i + 1 : Nat) : Int) := by omega
      rw [rsl, if_neg (by omega), hb', if_neg (by omega), if_neg (by omega), hcast]
      refine ih (i + 1) _ (m / 128) (by omega) (by omega) (by omega) (by omega) ?_
      intro j hj hij
      have := h (j + 1) (by rw [e]; simpa using hj) (by omega)
      simp only [e, List.getElem_cons_succ] at this
      rw [← this]
      congr 1
      omega
    · have e : (shortNums (k + 1) m).length = 1 := by rw [shortNums, if_neg c]; rfl
      omega
theorem cut_size (x : ByteArray) (c : Nat) (h : c < x.size) : (x.extract 0 c).size = c := by rw [ByteArray.size_extract]; omega
theorem cut_bt (x : ByteArray) (c : Nat) (h : c < x.size) (j : Nat) (hj : j < c) : bt (x.extract 0 c) (j : Int) = bt x (j : Int) := by
  rw [bt_extract x 0 c j (by rw [cut_size x c h]; exact hj)]
  congr 1
  omega
/-- Of a beginning of a short number's bytes (whatever stands behind them) nothing is read. -/
theorem short_cut (n : Int) (h0 : 0 ≤ n) (h1 : n < 18446744073709551616) (w : ByteArray) (c : Nat) (hc : c < (shortNums 9 n).length) : rsl ((strOfNums (shortNums 9 n) ++ w).extract 0 c) 0 10 0 0 = some (0, (strOfNums (shortNums 9 n) ++ w).extract 0 c, 0, 20) := by
  have hz : (strOfNums (shortNums 9 n) ++ w).size = (shortNums 9 n).length + w.size := by rw [ByteArray.size_append, strOfNums_size]
  have hs := cut_size (strOfNums (shortNums 9 n) ++ w) c (by omega)
  refine rsl_cut _ 9 0 0 n (by omega) (by omega) (by omega) (by omega) ?_
  intro j hj hij
  have e : ((0 : Nat) : Int) + (j : Int) = (j : Int) := by omega
  rw [e, cut_bt _ c (by omega) j (by omega), bt_append_left _ _ j (by rw [strOfNums_size]; exact hj), bt_strOfNums _ (shortNums_range 9 n h0 (by omega)) j hj]
theorem E_size : PackP.E.size = 0 := rfl
theorem take_err (s : ByteArray) (a e n : Int) (he : e ≠ 0) : pack_Reader_take.f s a e n = some (PackP.E, s, a, e) := by
  unfold pack_Reader_take.f pack_Reader_fails.f
  rw [Option.bind_some, if_pos (bne_iff_ne.mpr he)]
  rfl
theorem byte_err (s : ByteArray) (a e : Int) (he : e ≠ 0) : pack_Reader_Byte.f s a e = some (0, s, a, e) := by
  unfold pack_Reader_Byte.f
  rw [take_err s a e 1 he, Option.bind_some]
  exact if_pos (by rw [ByteArray.toList_eq]; rfl)
theorem fixed_err (k : Nat) (s : ByteArray) (a e : Int) (he : e ≠ 0) : pack_Reader_Fixed.f (k + 1) s a e = some (0, s, a, e) := by
  unfold pack_Reader_Fixed.f
  rw [take_err s a e 8 he, Option.bind_some, pack_Reader_Fixed.l0]
  exact if_neg (show ¬ ((0 : Int) < (PackP.E.size : Int)) by decide)
theorem left_err (s : ByteArray) (a e : Int) (he : e ≠ 0) : pack_Reader_Left.f s a e = some (0, s, a, e) := by
  unfold pack_Reader_Left.f pack_Reader_fails.f
  rw [Option.bind_some, if_pos (bne_iff_ne.mpr he)]
theorem end_err (s : ByteArray) (a e : Int) (he : e ≠ 0) : pack_Reader_End.f s a e = some (e, s, a, e) := by
  unfold pack_Reader_End.f
  rw [if_neg (fun q => he q.1)]
theorem err_ (s : ByteArray) (a e : Int) : pack_Reader_Err.f s a e = some (e, s, a, e) := rfl
theorem read_ (s : ByteArray) : pack_Read.f s = some (s, 0, 0) := rfl
theorem j1_ok (k : Nat) (x y z : ByteArray) (a b c : Int) : coppicelaw02_PackCuts.j1 (k + 2) false x a 20 y b 20 z c 20 = some true := by
  have h20 : (20 : Int) ≠ 0 := by decide
  rw [coppicelaw02_PackCuts.j1, if_neg (by decide), byte_err x a 20 h20, Option.bind_some, if_pos rfl, left_err x a 20 h20, Option.bind_some, if_pos rfl, fixed_err k y b 20 h20, Option.bind_some, if_pos rfl, end_err z c 20 h20, Option.bind_some]
  rfl
theorem tmod_nat (c : Int) (h : 0 ≤ c) (z : Nat) (hz : 0 < z) : ∃ m : Nat, Int.tmod c (z : Int) = (m : Int) ∧ m < z := by
  obtain ⟨c, rfl⟩ := Int.eq_ofNat_of_zero_le h
  refine ⟨c % z, ?_, Nat.mod_lt _ hz⟩
  rw [Int.tmod_eq_emod_of_nonneg h]
  rfl
theorem j0_ok (n : Int) (hn : 0 ≤ n ∧ n < 18446744073709551616) (s : ByteArray) (hs : s.size ≤ 4096) (c : Int) (hc : 0 ≤ c) : coppicelaw02_PackCuts.j0 101 n s c false = some true := by
  have hF : pack_Fixed.f n = some (strOfNums (fixedNums n)) := by unfold pack_Fixed.f; rw [if_pos hn]
  have hS : pack_Short.f n = some (strOfNums (shortNums 9 n)) := by unfold pack_Short.f; rw [if_pos hn]
  have hT : pack_Text.f s = some (strOfNums (shortNums 9 s.size) ++ s) := by unfold pack_Text.f; rw [if_pos (by omega)]
  have zF : (strOfNums (fixedNums n)).size = 8 := by rw [strOfNums_size]; rfl
  have zS : (strOfNums (shortNums 9 n)).size = (shortNums 9 n).length := strOfNums_size _
  have zT : (strOfNums (shortNums 9 s.size) ++ s).size = (shortNums 9 s.size).length + s.size := by rw [ByteArray.size_append, strOfNums_size]
  have pS := shortNums_pos 9 n
  have lS := shortNums_len 9 n
  have pT := shortNums_pos 9 s.size
  have lT := shortNums_len 9 s.size
  obtain ⟨m1, t1, b1⟩ := tmod_nat c hc (strOfNums (fixedNums n)).size (by omega)
  obtain ⟨m2, t2, b2⟩ := tmod_nat c hc (strOfNums (shortNums 9 n)).size (by omega)
  obtain ⟨m3, t3, b3⟩ := tmod_nat c hc (strOfNums (shortNums 9 s.size) ++ s).size (by omega)
  have z1 := cut_size _ m1 b1
  have z2 := cut_size _ m2 b2
  have z3 := cut_size _ m3 b3
  have r1 := fixed_short ((strOfNums (fixedNums n)).extract 0 m1) 0 (by omega) (by omega) (by omega) 100 (by omega) (by omega)
  have q2 : rsl ((strOfNums (shortNums 9 n)).extract 0 m2) 0 10 0 0 = some (0, (strOfNums (shortNums 9 n)).extract 0 m2, 0, 20) := by
    have := short_cut n hn.1 hn.2 PackP.E m2 (by omega)
    rwa [show strOfNums (shortNums 9 n) ++ PackP.E = strOfNums (shortNums 9 n) from ByteArray.append_empty] at this
  have r2 : pack_Reader_Short.f ((strOfNums (shortNums 9 n)).extract 0 m2) 0 0 = some (0, (strOfNums (shortNums 9 n)).extract 0 m2, 0, 20) := by
    rw [short_ok _ 0 (by omega) (by omega) (by omega), q2]
  have r3 : pack_Reader_Text.f 100 ((strOfNums (shortNums 9 s.size) ++ s).extract 0 m3) 0 0 1048576 = some (PackP.E, (strOfNums (shortNums 9 s.size) ++ s).extract 0 m3, 0, 20) := by
    by_cases cm : m3 < (shortNums 9 s.size).length
    · have q3 := short_cut s.size (by omega) (by omega) s m3 cm
      exact text_err _ 0 (by omega) (by omega) (by omega) 100 1048576 0 0 20 q3 (by decide)
    · have q3 : rsl ((strOfNums (shortNums 9 s.size) ++ s).extract 0 m3) 0 10 0 0 = some ((s.size : Int), (strOfNums (shortNums 9 s.size) ++ s).extract 0 m3, 0 + ((shortNums 9 s.size).length : Int), 0) := by
        refine rsl_write _ 0 s.size (by omega) (by omega) (by omega) ?_
        intro j hj
        rw [show (0 : Int) + (j : Int) = (j : Int) by omega, cut_bt _ m3 b3 j (by omega), bt_append_left _ _ j (by rw [strOfNums_size]; exact hj), bt_strOfNums _ (shortNums_range 9 s.size (by omega) (by omega)) j hj]
      exact text_short _ 0 (by omega) (by omega) (by omega) 100 (by omega) 1048576 s.size _ (by omega) q3 (by omega) (by omega)
  rw [coppicelaw02_PackCuts.j0, if_neg (by decide), hF, Option.bind_some, hS, Option.bind_some, hT, Option.bind_some]
  rw [t1, t2, t3, Int.toNat_natCast, Int.toNat_natCast, Int.toNat_natCast]
  generalize strOfNums (fixedNums n) = A at *
  generalize strOfNums (shortNums 9 n) = B at *
  generalize strOfNums (shortNums 9 s.size) ++ s = C at *
  rw [if_neg (by omega), if_pos (by omega), if_pos (by omega), read_, Option.bind_some, if_neg (by omega), if_pos (by omega), if_pos (by omega), read_, Option.bind_some, if_neg (by omega), if_pos (by omega), if_pos (by omega), read_, Option.bind_some]
  rw [r1, Option.bind_some, if_pos rfl, err_, Option.bind_some, if_pos rfl, r2, Option.bind_some, if_pos rfl, err_, Option.bind_some, if_pos rfl, r3, Option.bind_some, if_pos (show PackP.E.toList = [] by rw [ByteArray.toList_eq]; rfl), err_, Option.bind_some]
  rw [show ((20 : Int) != 20) = false by decide]
  exact j1_ok 98 _ _ _ _ _ _
theorem PackCuts : coppicelaw02_PackCuts.Pure := by
  intro n s c hn hs _
  refine ⟨101, ?_⟩
  unfold coppicelaw02_PackCuts.f
  rw [awake_true, Option.bind_some, if_pos rfl]
  by_cases c1 : (s.size : Int) > 4096
  · rw [if_pos c1, coppicelaw02_PackCuts.j0, if_pos rfl]
  rw [if_neg c1]
  by_cases c2 : c < 0
  · rw [decide_eq_true c2, coppicelaw02_PackCuts.j0, if_pos rfl]
  rw [decide_eq_false c2]
  exact j0_ok n (u64_bounds n hn) s (by omega) c (by omega)
end Go.Proofs.Ytlicdfipockgaaa.PureCuts
namespace Go.Proofs.Ytlicdfipockgaaa.Pure
theorem PackCuts : Go.Proofs.Ytlicdfipockgaaa.PA.coppicelaw02_PackCuts.Pure := Go.Proofs.Ytlicdfipockgaaa.PureCuts.PackCuts
end Go.Proofs.Ytlicdfipockgaaa.Pure
