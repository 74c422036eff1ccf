/- Part of a proof over this seat: a library of my own, and what it says of this seat. No statement is proved here. -/
import Derived.Test.YtmpoakdpdflfgaaGreatDoorPnrtBJ
import Derived.Test.YtmpoakdpdflfgaaGreatDoorPnrtBM
import Derived.Test.YtmpoakdpdflfgaaGreatDoorPnrtBO
import Derived.Test.YtmpoakdpdflfgaaGreatDoorPnrtBL
import Derived.Test.YtmpoakdpdflfgaaGreatDoorPnrtBI
namespace Go.Dec
open Go.Proofs
abbrev zDm:List Ty:=[]
abbrev zDn:List Ty:=[.bool]
theorem zDo (n:Nat):Pure Tryz.prog 15 zDm zDn (shown22 n):=Tryz.shown22
end Go.Dec
