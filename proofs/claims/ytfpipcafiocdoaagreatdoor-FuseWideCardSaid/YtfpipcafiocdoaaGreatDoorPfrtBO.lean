/- Part of a proof over this seat: a library of my own, and what it says of this seat. No statement is proved here. -/
import Derived.Test.YtfpipcafiocdoaaGreatDoorPfrtBJ
import Derived.Test.YtfpipcafiocdoaaGreatDoorPfrtBI
namespace Go.Dec
open Go.Proofs
abbrev zCx:List Ty:=[]
abbrev zCy:List Ty:=[.bool]
theorem zCz (n:Nat):Pure Tryz.prog 21 zCx zCy (shown20 n):=Tryz.shown20
end Go.Dec
