/- Paths: a text is a name, a path, a loose path, a target just where the document says so, with the same names. -/
import Derived.Test.YtkfmilfmpmmpkaaDoorPBx22
import Derived.Test.YtkfmilfmpmmpkaaDoorPathLp
import Derived.Test.YtkfmilfmpmmpkaaDoorPathM
import Derived.Test.YtkfmilfmpmmpkaaDoorPathE
import Derived.Test.YtkfmilfmpmmpkaaDoorPathA
namespace Go.Proofs.YtkfmilfmpmmpkaaDoor.Pure
open Go.RowKit Go.Proofs.YtkfmilfmpmmpkaaDoor.PB Go.Proofs.YtkfmilfmpmmpkaaDoorW.PrintWords Go.Proofs.YtkfmilfmpmmpkaaDoorW.PrintLast
open Go.Proofs.YtkfmilfmpmmpkaaDoor.Plain Go.Proofs.YtkfmilfmpmmpkaaDoor.PathP Go.Proofs.YtkfmilfmpmmpkaaDoor.TargetP
theorem names_len (first : ByteArray → Bool) (most : Nat) (s : ByteArray) : (pathNames first most s).1.length ≤ 32 := by
  unfold pathNames
  repeat' split
  all_goals first | (next h => exact h.1) | exact Nat.zero_le _
theorem lead_len (s : ByteArray) : (leadR s).1.length ≤ 32 := by
  unfold leadR
  repeat' split
  all_goals first | (next h => exact h.1) | exact names_len _ _ _ | exact Nat.zero_le _
theorem PathSplits : coppicelaw12_PathSplits.Pure := by
  intro s hs
  refine ⟨2000000, ?_⟩
  unfold coppicelaw12_PathSplits.f
  rw [awake_ok 2000000 (by omega), Option.bind_some, if_pos rfl]
  by_cases hb : (s.size : Int) > 4096
  · rw [if_pos hb]
  · have l1 : (splitR s).1.length ≤ 32 := names_len _ _ _
    have l2 : (looseR s).1.length ≤ 32 := names_len _ _ _
    have l3 := lead_len s
    rw [if_neg hb, psplit_f s (by omega) _ (by omega), Option.bind_some, rsplit_f s (by omega) _ (by omega), Option.bind_some,
      ploose_f s (by omega) _ (by omega), Option.bind_some, rloose_f s (by omega) _ (by omega), Option.bind_some,
      plead_f s (by omega) _ (by omega), Option.bind_some, rlead_f s (by omega) _ (by omega), Option.bind_some,
      name_f, Option.bind_some, rname_f s (by omega) _ (by omega), Option.bind_some, if_pos (by simp),
      target_ok, Option.bind_some, rtarget_ok s (by omega) _ (by omega), Option.bind_some, if_pos (by simp),
      same_f _ _ (by omega) _ (by omega), decide_eq_true rfl, Option.bind_some, if_pos rfl, if_pos rfl,
      same_f _ _ (by omega) _ (by omega), decide_eq_true rfl, Option.bind_some, if_pos rfl, if_pos rfl,
      same_f _ _ (by omega) _ (by omega), decide_eq_true rfl, Option.bind_some, if_pos rfl, if_pos (by simp)]
    simp
end Go.Proofs.YtkfmilfmpmmpkaaDoor.Pure
