import Derived.Test.YtdkbikaheagbfaaPAx16
import Derived.Test.YtdkbikaheagbfaaNodeC
/-! Nodes: the document's check, size, bytes. -/
namespace Go.Proofs.Ytdkbikaheagbfaa.NodeP
open Go.RowKit Go.Proofs.Ytdkbikaheagbfaa.PA Go.Proofs.YtdkbikaheagbfaaW.PrintWords Go.Proofs.YtdkbikaheagbfaaW.PrintLast Go.Proofs.YtdkbikaheagbfaaW.PrintMore
open Go.Proofs.Ytdkbikaheagbfaa.Plain
section
variable (k : Nat) (a : Bool) (l : List S44) (m : List S46) (hs : small l m) (hk : 700 ≤ k)
include hs hk
theorem rsize_ok : coppiceref06_Size.f k a l m = some (sizeR a l m) := by
  unfold coppiceref06_Size.f sizeR
  rw [right_ok k a l m hs hk, Option.bind_some]
  by_cases c : rightB a l m = true
  · rw [if_pos c, if_pos c, bytes_ok k a l m hs hk, Option.bind_some, ofL_size]
  · rw [if_neg c, if_neg c]
theorem rcheck_ok : coppiceref06_Check.f k a l m = some (checkR a l m) := by
  unfold coppiceref06_Check.f checkR
  rw [right_ok k a l m hs hk, Option.bind_some]
  by_cases c : rightB a l m = true
  · rw [if_pos c, if_pos c, bytes_ok k a l m hs hk, Option.bind_some, ofL_size]
    split <;> rfl
  · rw [if_neg c, if_neg c]
theorem rencode_ok : coppiceref06_Encode.f k a l m = some (encR a l m) := by
  unfold coppiceref06_Encode.f encR
  rw [rcheck_ok k a l m hs hk, Option.bind_some]
  by_cases c : checkR a l m = 0
  · rw [if_pos c, if_pos c, bytes_ok k a l m hs hk, Option.bind_some]
  · rw [if_neg c, if_neg c]
end
end Go.Proofs.Ytdkbikaheagbfaa.NodeP
