/- InodeWrites: an inode's bytes are the document's, or the error: for every inode (the law itself lets go targets above 2^10 bytes). -/
import Derived.Test.YtppkdmocbhodpaaPAx10
import Derived.Test.YtppkdmocbhodpaaInode
namespace Go.Proofs.Ytppkdmocbhodpaa.PureWrites
open Go.RowKit Go.Proofs.Ytppkdmocbhodpaa.PA Go.Proofs.YtppkdmocbhodpaaW.PrintWords Go.Proofs.YtppkdmocbhodpaaW.PrintLast Go.Proofs.YtppkdmocbhodpaaW.PrintMore
open Go.Proofs.Ytppkdmocbhodpaa.Plain Go.Proofs.Ytppkdmocbhodpaa

theorem awake_E : inode_Encode.f 2000 2 0 0 1 0 (⟨#[]⟩ : ByteArray) = some (InodeP.bytes 2 0 0 1 0 ⟨#[]⟩, 0) := by
  rw [InodeP.encode_ok 2 0 0 1 0 _ 2000 (by omega)]
  decide +kernel
theorem awake_true : coppicelaw14_awake.f 2000 = some true := by
  unfold coppicelaw14_awake.f
  rw [awake_E, Option.bind_some]
  decide +kernel
theorem InodeWrites : coppicelaw14_InodeWrites.Pure := by
  intro x hx
  refine ⟨2000, ?_⟩
  unfold coppicelaw14_InodeWrites.f
  rw [awake_true, Option.bind_some, if_pos rfl]
  by_cases c : (x.f5.size : Int) > 1024
  · rw [if_pos c]
  rw [if_neg c, InodeP.encode_ok x.f0 x.f1 x.f2 x.f3 x.f4 x.f5 2000 (by omega), Option.bind_some, InodeP.rencode_ok x.f0 x.f1 x.f2 x.f3 x.f4 x.f5 2000 (by omega) (by omega), Option.bind_some, if_pos rfl, if_pos rfl, InodeP.check_ok x.f0 x.f1 x.f2 x.f3 x.f4 x.f5 2000 (by omega), Option.bind_some]
  unfold InodeP.enc InodeP.code
  cases InodeP.isRight x.f0 x.f1 x.f3 x.f4 x.f5 <;> rfl
end Go.Proofs.Ytppkdmocbhodpaa.PureWrites
namespace Go.Proofs.Ytppkdmocbhodpaa.Pure
theorem InodeWrites : Go.Proofs.Ytppkdmocbhodpaa.PA.coppicelaw14_InodeWrites.Pure := Go.Proofs.Ytppkdmocbhodpaa.PureWrites.InodeWrites
end Go.Proofs.Ytppkdmocbhodpaa.Pure
