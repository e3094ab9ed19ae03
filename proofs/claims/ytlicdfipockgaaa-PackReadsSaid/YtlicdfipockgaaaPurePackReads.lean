/- PackReads: whatever is asked of whatever bytes, a reader answers as the document says, also behind its first error: for every script. -/
import Derived.Test.YtlicdfipockgaaaPAx17
import Derived.Test.YtlicdfipockgaaaSim
import Derived.Test.YtlicdfipockgaaaPackLeft
namespace Go.Proofs.Ytlicdfipockgaaa.PureReads
open Go.RowKit Go.Proofs.Ytlicdfipockgaaa.PA Go.Proofs.YtlicdfipockgaaaW.PrintWords Go.Proofs.YtlicdfipockgaaaW.PrintLast Go.Proofs.YtlicdfipockgaaaW.PrintMore
open Go.Proofs.Ytlicdfipockgaaa.Plain Go.Proofs.Ytlicdfipockgaaa.PackP Go.Proofs.Ytlicdfipockgaaa.SimP

theorem awake_true : coppicelaw02_awake.f = some true := by decide +kernel
theorem i64_bounds (a : Int) (h : (Lit.int .i64 a).wf = true) : -9223372036854775808 ≤ a ∧ a ≤ 9223372036854775807 := by
  simp [Lit.wf, IntKind.min, IntKind.max, IntKind.signed, IntKind.bits] at h; omega
theorem left_both (s : ByteArray) (a e : Int) (R : ByteArray) (h : Sim s a R) (h2 : s.size ≤ 4611686018427387904) :
    ∃ v, pack_Reader_Left.f s a e = some (v, s, a, e) ∧ coppiceref02_Reader_Left.f R e = some (v, R, e) := by
  have h0 := h.h0; have h1 := h.h1; have hz := h.size
  unfold coppiceref02_Reader_Left.f
  by_cases he : e = 0
  · subst he
    refine ⟨(s.size : Int) - a, left_ok s a h0 h1 h2, ?_⟩
    rw [if_pos rfl, show (s.size : Int) - a = (R.size : Int) by omega]
  · refine ⟨0, ?_, by rw [if_neg he]⟩
    unfold pack_Reader_Left.f pack_Reader_fails.f
    rw [Option.bind_some, if_pos (bne_iff_ne.mpr he)]
theorem err_ (s : ByteArray) (a e : Int) : pack_Reader_Err.f s a e = some (e, s, a, e) := rfl
theorem step2 (k : Nat) (l : List S42) (i : Int) (s : ByteArray) (a e : Int) (R : ByteArray) (h : Sim s a R) (h2 : s.size ≤ 4611686018427387904) :
    coppicelaw02_PackReads.j2 (k + 1) l i true s a e R e = coppicelaw02_PackReads.l0 k l (wrap64 (i + 1)) s a e R e := by
  obtain ⟨v, p, q⟩ := left_both s a e R h h2
  obtain ⟨u, p', q', _⟩ := end_both s a e R h h2
  rw [coppicelaw02_PackReads.j2, if_pos rfl, p, Option.bind_some, q, Option.bind_some, if_pos rfl, err_, Option.bind_some, if_pos rfl, p', Option.bind_some, q', Option.bind_some, if_pos rfl]
theorem rd_mem (l : List S42) (i : Nat) (h : i < l.length) : rd_T42 l (i : Int) ∈ l := by
  unfold rd_T42
  rw [Int.toNat_natCast, List.getD_eq_getElem?_getD, List.getElem?_eq_getElem h]
  exact List.getElem_mem h
theorem loop (l : List S42) (hl : ∀ y ∈ l, wf42 y) (hn : l.length ≤ 1000) (s : ByteArray) (h2 : s.size ≤ 4611686018427387904) : ∀ (m i k : Nat) (a e : Int) (R : ByteArray), l.length = i + m → 2 * m + 30 ≤ k → Sim s a R →
    coppicelaw02_PackReads.l0 k l (i : Int) s a e R e = some true
  | 0, i, k, a, e, R, hi, hk, h => by
    obtain ⟨k, rfl⟩ : ∃ q, k = q + 1 := ⟨k - 1, by omega⟩
    obtain ⟨v, p, q⟩ := left_both s a e R h h2
    obtain ⟨u, p', q', _⟩ := end_both s a e R h h2
    rw [coppicelaw02_PackReads.l0, if_neg (by omega), p, Option.bind_some, q, Option.bind_some, if_pos rfl, p', Option.bind_some, q', Option.bind_some]
    exact congrArg some (beq_self_eq_true _)
  | m + 1, i, k, a, e, R, hi, hk, h => by
    obtain ⟨k, rfl⟩ : ∃ q, k = q + 2 := ⟨k - 2, by omega⟩
    have e1 : wrap64 ((i : Int) + 1) = ((i + 1 : Nat) : Int) := by unfold wrap64; omega
    have next : ∀ (a' e' : Int) (R' : ByteArray), Sim s a' R' → coppicelaw02_PackReads.j2 (k + 1) l (i : Int) true s a' e' R' e' = some true := by
      intro a' e' R' h'
      rw [step2 k l i s a' e' R' h' h2, e1]
      exact loop l hl hn s h2 m (i + 1) k a' e' R' (by omega) (by omega) h'
    have hw := hl _ (rd_mem l i (by omega))
    have hm := i64_bounds _ hw.2
    rw [coppicelaw02_PackReads.l0, if_pos (by omega), if_pos (by omega)]
    generalize rd_T42 l (i : Int) = y at *
    by_cases c0 : y.f0 = 0
    · obtain ⟨v, a', e', R', p, q, S, _, _⟩ := byte_both s a e R h h2
      rw [if_pos c0, p, Option.bind_some, q, Option.bind_some, beq_self_eq_true]
      exact next a' e' R' S
    rw [if_neg c0]
    by_cases c1 : y.f0 = 1
    · obtain ⟨v, a', e', R', p, q, S, _, _⟩ := fixed_both s a e R h h2 (k + 1) (by omega)
      rw [if_pos c1, p, Option.bind_some, q, Option.bind_some, beq_self_eq_true]
      exact next a' e' R' S
    rw [if_neg c1]
    by_cases c2 : y.f0 = 2
    · obtain ⟨v, a', e', R', p, q, S, _, _⟩ := short_both s a e R h h2 (k + 1) (by omega)
      rw [if_pos c2, p, Option.bind_some, q, Option.bind_some, beq_self_eq_true]
      exact next a' e' R' S
    rw [if_neg c2]
    by_cases c3 : y.f0 = 3
    · obtain ⟨v, a', e', R', p, q, S, _, _⟩ := text_both s a e R h h2 (k + 1) (by omega) y.f1 hm
      rw [if_pos c3, p, Option.bind_some, q, Option.bind_some, beq_self_eq_true]
      exact next a' e' R' S
    rw [if_neg c3]
    exact next a e R h
theorem PackReads : coppicelaw02_PackReads.Pure := by
  intro s l hs hl
  refine ⟨2001, ?_⟩
  unfold coppicelaw02_PackReads.f
  rw [awake_true, Option.bind_some, if_pos rfl]
  by_cases c : (s.size : Int) > 65536
  · rw [if_pos c, coppicelaw02_PackReads.j0, if_pos rfl]
  rw [if_neg c]
  by_cases c1 : (l.length : Int) > 200
  · rw [decide_eq_true c1, coppicelaw02_PackReads.j0, if_pos rfl]
  rw [decide_eq_false c1, coppicelaw02_PackReads.j0, if_neg (by decide), show pack_Read.f s = some (s, 0, 0) from rfl, Option.bind_some]
  exact loop l hl.2 (by omega) s (by omega) l.length 0 2000 0 0 s (by omega) (by omega) (Sim.start s)
end Go.Proofs.Ytlicdfipockgaaa.PureReads
namespace Go.Proofs.Ytlicdfipockgaaa.Pure
theorem PackReads : Go.Proofs.Ytlicdfipockgaaa.PA.coppicelaw02_PackReads.Pure := Go.Proofs.Ytlicdfipockgaaa.PureReads.PackReads
end Go.Proofs.Ytlicdfipockgaaa.Pure
