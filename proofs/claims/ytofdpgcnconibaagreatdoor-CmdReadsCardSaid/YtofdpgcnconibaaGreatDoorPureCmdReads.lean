/- CmdReads: whatever bytes there are, they begin with a record just where the document says so: for all bytes (the law itself lets go those of more than 2^13). -/
import Derived.Test.YtofdpgcnconibaaGreatDoorPAx30
import Derived.Test.YtofdpgcnconibaaGreatDoorCmdDR
namespace Go.Proofs.YtofdpgcnconibaaGreatDoor.Pure
open Go.RowKit Go.Proofs.YtofdpgcnconibaaGreatDoor.PA Go.Proofs.YtofdpgcnconibaaGreatDoorW.PrintWords Go.Proofs.YtofdpgcnconibaaGreatDoorW.PrintLast
open Go.Proofs.YtofdpgcnconibaaGreatDoor.Plain Go.Proofs.YtofdpgcnconibaaGreatDoor.CmdP
theorem CmdReads : coppicelaw19_CmdReads.Pure := by
  intro s _
  refine ⟨3000000, ?_⟩
  unfold coppicelaw19_CmdReads.f
  rw [awake19 _ (by omega), Option.bind_some, if_pos rfl]
  by_cases hs : (s.size : Int) > 8192
  · rw [if_pos hs]
  rw [if_neg hs]
  obtain ⟨c, p, t, m, n, d, len, code, h1, h2⟩ := decode_both s (by omega) 3000000 (by omega)
  rw [Dec_f s _ c p t m n d len code h1, Option.bind_some, h2, Option.bind_some]
  dsimp only
  rw [if_pos (by simp), if_pos rfl]
  unfold coppicelaw19_tells.f toldR
  by_cases h0 : code = 0
  · rw [if_pos h0, if_pos h0]; rfl
  · rw [if_neg h0, if_neg h0]; simp
end Go.Proofs.YtofdpgcnconibaaGreatDoor.Pure
