import Derived.Test.YtdkbikaheagbfaaPAx17
import Derived.Test.YtdkbikaheagbfaaPAx18
import Derived.Test.YtdkbikaheagbfaaPAx19
import Derived.Test.YtdkbikaheagbfaaPAx20
import Derived.Test.YtdkbikaheagbfaaPAx5
import Derived.Test.YtdkbikaheagbfaaPAx6
import Derived.Test.YtdkbikaheagbfaaNodeB
import Derived.Test.YtdkbikaheagbfaaSim
/-! Bytes, read one behind the other. -/
set_option linter.unusedVariables false
set_option linter.unusedSectionVars false
set_option linter.unusedSimpArgs false
namespace Go.Proofs.Ytdkbikaheagbfaa.NodeP
open Go.RowKit Go.Proofs.Ytdkbikaheagbfaa.PA Go.Proofs.YtdkbikaheagbfaaW.PrintWords Go.Proofs.YtdkbikaheagbfaaW.PrintLast Go.Proofs.YtdkbikaheagbfaaW.PrintMore
open Go.Proofs.Ytdkbikaheagbfaa.Plain Go.Proofs.Ytdkbikaheagbfaa.SimP
theorem ofL_inj {L M : List UInt8} (h : ofL L = ofL M) : L = M := by rw [← ofL_toList L, h, ofL_toList]
theorem extract_join (s : ByteArray) (a b : Nat) (h : a ≤ b) (hb : b ≤ s.size) : s.extract 0 b = s.extract 0 a ++ s.extract a b := by
  apply ByteArray.ext
  rw [ByteArray.data_append, ByteArray.data_extract, ByteArray.data_extract, ByteArray.data_extract, Array.extract_append_extract]
  congr 1 <;> omega
/-- What stands ahead of the place a is L. -/
def Has (s : ByteArray) (a : Int) (L : List UInt8) : Prop := s.extract 0 a.toNat = ofL L
theorem Has.start (s : ByteArray) : Has s 0 [] := by
  unfold Has
  apply ByteArray.ext
  rw [ByteArray.data_extract]
  simp [ofL]
theorem Has.more {s : ByteArray} {a a' : Int} {L : List UInt8} {v : ByteArray} (h : Has s a L) (h0 : 0 ≤ a) (h1 : a ≤ a') (h2 : a' ≤ s.size) (hv : s.extract a.toNat a'.toNat = v) : Has s a' (L ++ v.toList) := by
  unfold Has at *
  rw [extract_join s a.toNat a'.toNat (by omega) (by omega), h, hv, ← ofL_app, ofL_of]
theorem Has.len {s : ByteArray} {a : Int} {L : List UInt8} (h : Has s a L) (h0 : 0 ≤ a) (h1 : a ≤ s.size) : (L.length : Int) = a := by
  have := congrArg ByteArray.size h
  rw [ofL_size, ByteArray.size_extract] at this
  omega
theorem Has.all {s : ByteArray} {L : List UInt8} (h : Has s s.size L) : s = ofL L := by
  unfold Has at h
  rw [← h]
  apply ByteArray.ext
  rw [ByteArray.data_extract, Int.toNat_natCast]
  show s.data = s.data.extract 0 s.data.size
  rw [Array.extract_size]
theorem sim_at (s : ByteArray) (a : Int) (h0 : 0 ≤ a) (h1 : a ≤ s.size) : Sim s a (s.extract a.toNat s.size) := by
  have := (Sim.start s).go a.toNat (by omega)
  rwa [show (0 : Int) + ((a.toNat : Nat) : Int) = a by omega] at this
theorem size_short (v : Int) : 1 ≤ (shortB v).size := by unfold shortB; rw [strOfNums_size]; exact shortNums_pos 9 v
theorem size_text (t : ByteArray) : 1 + t.size ≤ (textB t).size := by unfold textB; rw [ByteArray.size_append, strOfNums_size]; have := shortNums_pos 9 t.size; omega
/-- What a reader tells of a number, and of a text; both readers alike. -/
theorem short_tells (s : ByteArray) (a e : Int) (R : ByteArray) (h : Sim s a R) (h2 : s.size ≤ 4611686018427387904) (k : Nat) (hk : 20 ≤ k) :
    ∃ v a' e' R', pack_Reader_Short.f s a e = some (v, s, a', e') ∧ coppiceref02_Reader_Short.f k R e = some (v, R', e') ∧ Sim s a' R' ∧ 0 ≤ v ∧ v < 18446744073709551616 ∧
      (e' = 0 → e = 0 ∧ a < a' ∧ ∀ L, Has s a L → Has s a' (L ++ (shortB v).toList)) := by
  obtain ⟨v, a', e', R', p1, p2, p3, p4, p5⟩ := short_both s a e R h h2 k hk
  refine ⟨v, a', e', R', p1, p2, p3, p4.1, p4.2, fun he => ?_⟩
  obtain ⟨q1, q2, q3⟩ := p5 he
  refine ⟨q1, ?_, fun L hL => hL.more h.h0 q2 p3.h1 q3⟩
  have hz : (s.extract a.toNat a'.toNat).size = (strOfNums (shortNums 9 v)).size := congrArg ByteArray.size q3
  rw [ByteArray.size_extract] at hz
  have h3 := size_short v
  unfold shortB at h3
  have := p3.h1; have := h.h0
  omega
theorem text_tells (s : ByteArray) (a e : Int) (R : ByteArray) (h : Sim s a R) (h2 : s.size ≤ 4611686018427387904) (k : Nat) (hk : 20 ≤ k) (most : Int) (hm : 0 ≤ most ∧ most ≤ 9223372036854775807) :
    ∃ v a' e' R', pack_Reader_Text.f k s a e most = some (v, s, a', e') ∧ coppiceref02_Reader_Text.f k R e most = some (v, R', e') ∧ Sim s a' R' ∧ (v.size : Int) ≤ most ∧
      (e' = 0 → e = 0 ∧ a < a' ∧ ∀ L, Has s a L → Has s a' (L ++ (textB v).toList)) := by
  obtain ⟨v, a', e', R', p1, p2, p3, p4, p5⟩ := text_both s a e R h h2 k hk most (by omega)
  refine ⟨v, a', e', R', p1, p2, p3, by omega, fun he => ?_⟩
  obtain ⟨q1, q2, q3⟩ := p5 he
  refine ⟨q1, ?_, fun L hL => hL.more h.h0 q2 p3.h1 q3⟩
  have hz : (s.extract a.toNat a'.toNat).size = (strOfNums (shortNums 9 v.size) ++ v).size := congrArg ByteArray.size q3
  rw [ByteArray.size_extract] at hz
  have h3 := size_text v
  unfold textB at h3
  have := p3.h1; have := h.h0
  omega
/-- Ahead of a number's, a text's bytes. -/
theorem short_at (s : ByteArray) (L M : List UInt8) (v : Int) (hv : 0 ≤ v ∧ v < 18446744073709551616) (hs : s = ofL (L ++ ((shortB v).toList ++ M))) (h2 : s.size ≤ 4611686018427387904) (R : ByteArray) (h : Sim s L.length R) (k : Nat) (hk : 20 ≤ k) :
    pack_Reader_Short.f s L.length 0 = some (v, s, ((L ++ (shortB v).toList).length : Int), 0) ∧ ∃ R', coppiceref02_Reader_Short.f k R 0 = some (v, R', 0) ∧ Sim s ((L ++ (shortB v).toList).length : Int) R' := by
  have e := PackP.at_short (ofL L) (ofL M) v hv.1 hv.2 s L.length (by rw [hs, ← ofL_app, ← ofL_app, ofL_of]; simp only [shortB, ByteArray.append_assoc]) (by rw [ofL_size]) h2
  have hz : ((L.length : Int) + ((shortNums 9 v).length : Int)) = ((L ++ (shortB v).toList).length : Int) := by
    rw [List.length_append, toList_len]; unfold shortB; rw [strOfNums_size]; omega
  rw [hz] at e
  refine ⟨e, ?_⟩
  obtain ⟨v', a', e', R', p1, p2, p3, _⟩ := short_both s L.length 0 R h h2 k hk
  rw [e] at p1
  simp only [Option.some.injEq, Prod.mk.injEq] at p1
  obtain ⟨rfl, _, rfl, rfl⟩ := p1
  exact ⟨R', p2, p3⟩
theorem text_at (s : ByteArray) (L M : List UInt8) (t : ByteArray) (most : Int) (hm : (t.size : Int) ≤ most ∧ most ≤ 9223372036854775807) (hs : s = ofL (L ++ ((textB t).toList ++ M))) (h2 : s.size ≤ 4611686018427387904) (R : ByteArray) (h : Sim s L.length R) (k : Nat) (hk : 20 ≤ k) :
    pack_Reader_Text.f k s L.length 0 most = some (t, s, ((L ++ (textB t).toList).length : Int), 0) ∧ ∃ R', coppiceref02_Reader_Text.f k R 0 most = some (t, R', 0) ∧ Sim s ((L ++ (textB t).toList).length : Int) R' := by
  have e := PackP.at_text (ofL L) (ofL M) t k (by omega) s L.length (by rw [hs, ← ofL_app, ← ofL_app, ofL_of]; simp only [textB, ByteArray.append_assoc]) (by rw [ofL_size]) h2 most hm
  have hz : ((L.length : Int) + ((shortNums 9 t.size).length : Int) + (t.size : Int)) = ((L ++ (textB t).toList).length : Int) := by
    rw [List.length_append, toList_len]; unfold textB; rw [ByteArray.size_append, strOfNums_size]; omega
  rw [hz] at e
  refine ⟨e, ?_⟩
  obtain ⟨v', a', e', R', p1, p2, p3, _⟩ := text_both s L.length 0 R h h2 k hk most (by omega)
  rw [e] at p1
  simp only [Option.some.injEq, Prod.mk.injEq] at p1
  obtain ⟨rfl, _, rfl, rfl⟩ := p1
  exact ⟨R', p2, p3⟩
end Go.Proofs.Ytdkbikaheagbfaa.NodeP
