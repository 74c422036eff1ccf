/- Part of a proof over this seat: a library of my own, and what it says of this seat. No statement is proved here. -/
import Derived.Test.YtmpoakdpdflfgaaGreatDoorPartBJ
import Derived.Test.YtmpoakdpdflfgaaGreatDoorPartBM
import Derived.Test.YtmpoakdpdflfgaaGreatDoorPartBL
import Derived.Test.YtmpoakdpdflfgaaGreatDoorPartBI
import Derived.Test.YtmpoakdpdflfgaaGreatDoorPartBN
import Derived.Test.YtmpoakdpdflfgaaGreatDoorPartBP
namespace Go.Dec
open Go.Proofs
abbrev zGc:List Ty:=[]
abbrev zGd:List Ty:=[.bool]
theorem zGe (n:Nat):Pure Tryz.prog 9 zGc zGd (shown16 n):=Tryz.shown16
end Go.Dec
