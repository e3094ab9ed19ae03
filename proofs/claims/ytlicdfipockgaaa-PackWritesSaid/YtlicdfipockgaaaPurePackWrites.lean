/- PackWrites: numbers and texts have the document's bytes: for every uint64 and every text (the law itself lets go those above 2^16 bytes). -/
import Derived.Test.YtlicdfipockgaaaPAx6
import Derived.Test.YtlicdfipockgaaaBytes
namespace Go.Proofs.Ytlicdfipockgaaa.PureWrites
open Go.RowKit Go.Proofs.Ytlicdfipockgaaa.PA Go.Proofs.YtlicdfipockgaaaW.PrintWords Go.Proofs.YtlicdfipockgaaaW.PrintLast Go.Proofs.YtlicdfipockgaaaW.PrintMore
open Go.Proofs.Ytlicdfipockgaaa.Plain

theorem awake_true : coppicelaw02_awake.f = some true := by decide +kernel
theorem u64_bounds (a : Int) (h : (Lit.int .u64 a).wf = true) : 0 ≤ a ∧ a < 18446744073709551616 := by
  simp [Lit.wf, IntKind.min, IntKind.max, IntKind.signed, IntKind.bits] at h; omega
theorem step (k : Nat) (x c : Int) (l : List Int) (h0 : 0 ≤ c) (h1 : c ≤ 56) (hl : l.length ≤ 8) :
    coppiceref02_Fixed.l0 (k + 1) x (strOfNums l) c = coppiceref02_Fixed.l0 k x (strOfNums (l ++ [x / 2 ^ c.toNat % 256])) (c - 8) := by
  rw [coppiceref02_Fixed.l0, if_pos (by omega), if_pos h0]
  simp only [Option.bind_some]
  rw [if_pos (by rw [strOfNums_size, strOfNums_size]; simp; omega), strOfNums_append]
  have e : wrap64 (c - 8) = c - 8 := by unfold wrap64; omega
  have e2 : shr .u64 x c = x / 2 ^ c.toNat := by unfold shr; rw [Nat.min_eq_left (by show _ ≤ 64; omega)]
  rw [e, e2]
theorem refFixed (a : Int) (h : 0 ≤ a ∧ a < 18446744073709551616) : coppiceref02_Fixed.f 10 a = some (strOfNums (fixedNums a)) := by
  unfold coppiceref02_Fixed.f
  have e0 : (⟨#[]⟩ : ByteArray) = strOfNums [] := rfl
  rw [e0, step 9 a 56 [] (by omega) (by omega) (by simp), step 8 _ _ _ (by omega) (by omega) (by simp), step 7 _ _ _ (by omega) (by omega) (by simp), step 6 _ _ _ (by omega) (by omega) (by simp), step 5 _ _ _ (by omega) (by omega) (by simp),
    step 4 _ _ _ (by omega) (by omega) (by simp), step 3 _ _ _ (by omega) (by omega) (by simp), step 2 _ _ _ (by omega) (by omega) (by simp)]
  rw [coppiceref02_Fixed.l0, if_neg (by omega)]
  congr 2
  simp only [fixedNums, List.nil_append, List.cons_append]
  have e1 : a / 2 ^ (56 : Int).toNat % 256 = a / 72057594037927936 := by
    show a / 72057594037927936 % 256 = _
    omega
  rw [e1]
  simp
theorem PackWrites : coppicelaw02_PackWrites.Pure := by
  intro a s ha hs
  have ha := u64_bounds a ha
  refine ⟨10, ?_⟩
  unfold coppicelaw02_PackWrites.f
  rw [awake_true]
  simp only [Option.bind_some, if_true]
  by_cases c : (s.size : Int) > 65536
  · rw [if_pos c]
  rw [if_neg c]
  have hF : pack_Fixed.f a = some (strOfNums (fixedNums a)) := by unfold pack_Fixed.f; rw [if_pos ha]
  have hS : pack_Short.f a = some (strOfNums (shortNums 9 a)) := by unfold pack_Short.f; rw [if_pos ha]
  have hR : coppiceref02_Short.f a = some (strOfNums (shortNums 9 a)) := by unfold coppiceref02_Short.f; rw [if_pos ha]
  have hT : pack_Text.f s = some (strOfNums (shortNums 9 s.size) ++ s) := by unfold pack_Text.f; rw [if_pos (by omega)]
  have hU : coppiceref02_Text.f s = some (strOfNums (shortNums 9 s.size) ++ s) := by unfold coppiceref02_Text.f; rw [if_pos (by omega)]
  rw [hF, refFixed a ha, hS, hR, hT, hU]
  simp
end Go.Proofs.Ytlicdfipockgaaa.PureWrites
namespace Go.Proofs.Ytlicdfipockgaaa.Pure
theorem PackWrites : Go.Proofs.Ytlicdfipockgaaa.PA.coppicelaw02_PackWrites.Pure := Go.Proofs.Ytlicdfipockgaaa.PureWrites.PackWrites
end Go.Proofs.Ytlicdfipockgaaa.Pure
