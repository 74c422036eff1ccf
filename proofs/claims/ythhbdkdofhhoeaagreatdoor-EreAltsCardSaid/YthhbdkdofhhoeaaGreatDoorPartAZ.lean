/- Part of a proof over this seat: a library of my own, and what it says of this seat. No statement is proved here. -/
import Derived.Test.YthhbdkdofhhoeaaGreatDoorPartAY
namespace Go.Dec
open Go.Proofs
set_option linter.unusedVariables false
end Go.Dec
