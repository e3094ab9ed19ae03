import Derived.Test.YtofdpgcnconibaaGreatDoorFew
import Derived.Shelf.RegionOpenPlain
import Derived.Shelf.Abstract
import Derived.Lib.Strings
import Derived.Lib.Slices
import Derived.Lib.Walk
import Derived.Lib.Builder
import Derived.Lib.AppendStr
import Derived.Lib.UnsafeStr
import Derived.Lib.FrozenHead
import Derived.Lib.FrozenHead2
import Derived.Lib.OthersKept
import Derived.WalkKit
import Derived.Laws.Externs
import Derived.Laws.IdiomCopy
import Derived.Laws.BitsLemmas
import Derived.KernelRfl
import Derived.Test.YtofdpgcnconibaaGreatDoorProg
/-! strings.Builder in a block of type T (its own, or a struct that embeds it at its head): copyCheck, WriteString, String. -/
namespace Go.Proofs.YtofdpgcnconibaaGreatDoor.Plain
open Go.RowKit
set_option linter.unusedVariables false
end Go.Proofs.YtofdpgcnconibaaGreatDoor.Plain
