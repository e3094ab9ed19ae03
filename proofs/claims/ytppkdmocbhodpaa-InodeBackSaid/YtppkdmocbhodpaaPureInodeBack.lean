/- InodeBack: what was encoded is decoded as it was, and fits into a tree; what is decoded has just these bytes. -/
import Derived.Test.YtppkdmocbhodpaaPAx12
import Derived.Test.YtppkdmocbhodpaaInodeB
namespace Go.Proofs.Ytppkdmocbhodpaa.PureBack
open Go.RowKit Go.Proofs.Ytppkdmocbhodpaa.PA Go.Proofs.YtppkdmocbhodpaaW.PrintWords Go.Proofs.YtppkdmocbhodpaaW.PrintLast Go.Proofs.YtppkdmocbhodpaaW.PrintMore
open Go.Proofs.Ytppkdmocbhodpaa.Plain Go.Proofs.Ytppkdmocbhodpaa

theorem i64_bounds (a : Int) (h : (Lit.int .i64 a).wf = true) : -9223372036854775808 ≤ a ∧ a ≤ 9223372036854775807 := by
  simp [Lit.wf, IntKind.min, IntKind.max, IntKind.signed, IntKind.bits] at h; omega
theorem awake_true : coppicelaw14_awake.f 2000 = some true := by
  unfold coppicelaw14_awake.f
  rw [show inode_Encode.f 2000 2 0 0 1 0 (⟨#[]⟩ : ByteArray) = some (InodeP.bytes 2 0 0 1 0 ⟨#[]⟩, 0) by rw [InodeP.encode_ok 2 0 0 1 0 _ 2000 (by omega)]; decide +kernel, Option.bind_some]
  decide +kernel
theorem j1_ok (k : Nat) (hk : 200 ≤ k) (s : ByteArray) (h2 : s.size ≤ 4611686018427387904) : coppicelaw14_InodeBack.j1 (k + 1) s false = some true := by
  obtain ⟨r, h1, h3⟩ := InodeP.decode_own s h2 k hk
  rw [coppicelaw14_InodeBack.j1, if_neg (by decide), h1, Option.bind_some, InodeP.encode_ok _ _ _ _ _ _ k (by omega), Option.bind_some]
  rcases h3 with h3 | ⟨h3, h4, h5⟩
  · rw [if_neg (show ¬ r.2.2.2.2.2.2 = 0 by rw [h3]; decide)]
  · unfold InodeP.enc
    rw [if_pos h3, h4, if_pos rfl, if_pos rfl, h5]
    exact congrArg some (beq_self_eq_true _)
theorem InodeBack : coppicelaw14_InodeBack.Pure := by
  intro x s hx hs
  obtain ⟨w0, w1, w2, w3, w4, w5⟩ := hx
  have b2 := i64_bounds x.f2 w2
  refine ⟨2000, ?_⟩
  unfold coppicelaw14_InodeBack.f
  rw [awake_true, Option.bind_some, if_pos rfl]
  by_cases c : (x.f5.size : Int) > 1024
  · rw [if_pos c, coppicelaw14_InodeBack.j0, if_pos rfl]
  rw [if_neg c]
  by_cases c1 : (s.size : Int) > 1024
  · rw [decide_eq_true c1, coppicelaw14_InodeBack.j0, if_pos rfl]
  have hj := j1_ok 1998 (by omega) s (by omega)
  rw [decide_eq_false c1, coppicelaw14_InodeBack.j0, if_neg (by decide), InodeP.encode_ok x.f0 x.f1 x.f2 x.f3 x.f4 x.f5 1999 (by omega), Option.bind_some]
  unfold InodeP.enc
  cases hR : InodeP.isRight x.f0 x.f1 x.f3 x.f4 x.f5 with
  | true =>
    have hz := InodeP.bytes_size x.f0 x.f1 x.f2 x.f3 x.f4 x.f5 hR
    have hd := InodeP.decode_back x.f0 x.f1 x.f2 x.f3 x.f4 x.f5 hR b2.1 b2.2 1999 (by omega)
    rw [if_pos rfl, hd, Option.bind_some, if_pos rfl, if_pos rfl]
    simp only [beq_self_eq_true, Bool.not_true, Bool.or_false]
    rw [if_neg (by decide), if_neg (by omega)]
    exact hj
  | false =>
    obtain ⟨r, h1, _⟩ := InodeP.decode_own InodeP.E (by decide) 1999 (by omega)
    rw [if_neg (by decide), h1, Option.bind_some, if_neg (by decide)]
    rw [show (InodeP.E.toList != ([] : List UInt8)) = false by decide +kernel]
    exact hj
end Go.Proofs.Ytppkdmocbhodpaa.PureBack
namespace Go.Proofs.Ytppkdmocbhodpaa.Pure
theorem InodeBack : Go.Proofs.Ytppkdmocbhodpaa.PA.coppicelaw14_InodeBack.Pure := Go.Proofs.Ytppkdmocbhodpaa.PureBack.InodeBack
end Go.Proofs.Ytppkdmocbhodpaa.Pure
