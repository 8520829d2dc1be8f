/- Texts of this claim, merged: InfYD. -/
import Derived.Test.YtblomnkamngnbaaGreatDoorMBS
import Derived.Test.YtblomnkamngnbaaGreatDoorMBT
namespace Go.Proofs.YtblomnkamngnbaaGreatDoor
open Go.Sx Go.RowKit
attribute [local irreducible] zAO Program.underlying Ylds zA3 alex zBY zBN awp zAm zBT zBe zAx zBA zBP zA2 zBR zBX zBa zBq zBI
end Go.Proofs.YtblomnkamngnbaaGreatDoor
