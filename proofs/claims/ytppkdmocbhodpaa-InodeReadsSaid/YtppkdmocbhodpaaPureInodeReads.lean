/- InodeReads: whatever bytes there are, they are an inode's just where the document says so. -/
import Derived.Test.YtppkdmocbhodpaaPAx20
import Derived.Test.YtppkdmocbhodpaaInodeD
namespace Go.Proofs.Ytppkdmocbhodpaa.PureReads
open Go.RowKit Go.Proofs.Ytppkdmocbhodpaa.PA Go.Proofs.YtppkdmocbhodpaaW.PrintWords Go.Proofs.YtppkdmocbhodpaaW.PrintLast Go.Proofs.YtppkdmocbhodpaaW.PrintMore
open Go.Proofs.Ytppkdmocbhodpaa.Plain Go.Proofs.Ytppkdmocbhodpaa

theorem awake_true : coppicelaw14_awake.f 2000 = some true := by
  unfold coppicelaw14_awake.f
  rw [show inode_Encode.f 2000 2 0 0 1 0 (⟨#[]⟩ : ByteArray) = some (InodeP.bytes 2 0 0 1 0 ⟨#[]⟩, 0) by rw [InodeP.encode_ok 2 0 0 1 0 _ 2000 (by omega)]; decide +kernel, Option.bind_some]
  decide +kernel
theorem InodeReads : coppicelaw14_InodeReads.Pure := by
  intro s hs
  refine ⟨2000, ?_⟩
  unfold coppicelaw14_InodeReads.f
  rw [awake_true, Option.bind_some, if_pos rfl]
  by_cases c : (s.size : Int) > 1024
  · rw [if_pos c]
  obtain ⟨r, h1, h2, _⟩ := InodeP.decode_both s (by omega) 2000 (by omega)
  rw [if_neg c, h1, Option.bind_some, h2, Option.bind_some]
  simp only [beq_self_eq_true, Bool.and_true, if_true]
end Go.Proofs.Ytppkdmocbhodpaa.PureReads
namespace Go.Proofs.Ytppkdmocbhodpaa.Pure
theorem InodeReads : Go.Proofs.Ytppkdmocbhodpaa.PA.coppicelaw14_InodeReads.Pure := Go.Proofs.Ytppkdmocbhodpaa.PureReads.InodeReads
end Go.Proofs.Ytppkdmocbhodpaa.Pure
