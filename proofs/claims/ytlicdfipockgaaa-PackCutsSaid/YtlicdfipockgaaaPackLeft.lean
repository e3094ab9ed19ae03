import Derived.Test.YtlicdfipockgaaaPAx6
import Derived.Test.YtlicdfipockgaaaPack
/-! How many bytes are left to pack's reader. -/
namespace Go.Proofs.Ytlicdfipockgaaa.PackP
open Go.RowKit Go.Proofs.Ytlicdfipockgaaa.PA Go.Proofs.YtlicdfipockgaaaW.PrintWords Go.Proofs.YtlicdfipockgaaaW.PrintLast Go.Proofs.YtlicdfipockgaaaW.PrintMore
open Go.Proofs.Ytlicdfipockgaaa.Plain
section
variable (s : ByteArray) (a : Int) (h0 : 0 ≤ a) (h1 : a ≤ s.size) (h2 : s.size ≤ 4611686018427387904)
include h0 h1 h2
theorem left_ok : pack_Reader_Left.f s a 0 = some (s.size - a, s, a, 0) := by
  unfold pack_Reader_Left.f pack_Reader_fails.f
  simp only [Option.bind_some]
  rw [if_neg (by decide), w64 _ (by omega) (by omega)]
end
end Go.Proofs.Ytlicdfipockgaaa.PackP
