/- CmdWrites: a command's record is the document's, or the error: for every command (the law itself lets go those with texts of more than 1500 bytes). -/
import Derived.Test.YtofdpgcnconibaaGreatDoorPAx22
import Derived.Test.YtofdpgcnconibaaGreatDoorCmdRE
namespace Go.Proofs.YtofdpgcnconibaaGreatDoor.Pure
open Go.RowKit Go.Proofs.YtofdpgcnconibaaGreatDoor.PA Go.Proofs.YtofdpgcnconibaaGreatDoorW.PrintWords Go.Proofs.YtofdpgcnconibaaGreatDoorW.PrintLast
open Go.Proofs.YtofdpgcnconibaaGreatDoor.Plain Go.Proofs.YtofdpgcnconibaaGreatDoor.CmdP Go.Proofs.YtofdpgcnconibaaGreatDoor.PathP
theorem CmdWrites : coppicelaw19_CmdWrites.Pure := by
  intro ⟨c, p, t, m, n, d⟩ hx
  refine ⟨100000, ?_⟩
  have hn : -9223372036854775808 ≤ n ∧ n ≤ 9223372036854775807 := by
    have := hx.2.2.2.2.1
    simp [Lit.wf, IntKind.min, IntKind.max, IntKind.signed, IntKind.bits] at this
    omega
  clear hx
  unfold coppicelaw19_CmdWrites.f
  rw [awake19 _ (by omega), Option.bind_some, if_pos rfl]
  rcases great_one c p t m n d 100000 (by omega) with h | ⟨h, h1, h2, h3, h4⟩
  · rw [h, Option.bind_some, if_pos rfl]
  rw [h, Option.bind_some, if_neg (by decide), Enc_f c p t m n d 1500 (by omega) (by omega) (by omega) (by omega) (by omega) _ (by omega), Option.bind_some,
    renc_f c p t m n d 1500 (by omega) (by omega) (by omega) (by omega) (by omega) hn _ (by omega), Option.bind_some, if_pos rfl]
  unfold cmd_Check.f
  rw [check_f c p t m n d 1500 (by omega) (by omega) (by omega) _ (by omega), Option.bind_some]
  unfold encR
  by_cases hg : goodB c p t m n d = true
  · rw [if_pos hg, if_pos hg, tell_none]
    rfl
  · rw [if_neg hg, if_neg hg, tell_some]
    rfl
end Go.Proofs.YtofdpgcnconibaaGreatDoor.Pure
