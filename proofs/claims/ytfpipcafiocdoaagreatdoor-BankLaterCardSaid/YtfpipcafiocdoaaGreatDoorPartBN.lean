/- Part of a proof over this seat: a library of my own, and what it says of this seat. No statement is proved here. -/
import Derived.Test.YtfpipcafiocdoaaGreatDoorPartBJ
import Derived.Test.YtfpipcafiocdoaaGreatDoorPartBI
import Derived.Test.YtfpipcafiocdoaaGreatDoorPartBM
namespace Go.Dec
open Go.Proofs
abbrev zBu:List Ty:=[]
abbrev zBv:List Ty:=[.bool]
theorem zBw (n:Nat):Pure Tryz.prog 15 zBu zBv (shown15 n):=Tryz.shown15
end Go.Dec
