/- Part of a proof over this seat: a library of my own, and what it says of this seat. No statement is proved here. -/
import Derived.Test.YtmpoakdpdflfgaaGreatDoorPartBJ
import Derived.Test.YtmpoakdpdflfgaaGreatDoorPartBM
import Derived.Test.YtmpoakdpdflfgaaGreatDoorPartBL
import Derived.Test.YtmpoakdpdflfgaaGreatDoorPartBI
import Derived.Test.YtmpoakdpdflfgaaGreatDoorPartBN
import Derived.Test.YtmpoakdpdflfgaaGreatDoorPartBO
namespace Go.Dec
open Go.Proofs
abbrev zDh:List Ty:=[]
abbrev zDi:List Ty:=[.bool]
theorem zDj (n:Nat):Pure Tryz.prog 9 zDh zDi (shown16 n):=Tryz.shown16
end Go.Dec
