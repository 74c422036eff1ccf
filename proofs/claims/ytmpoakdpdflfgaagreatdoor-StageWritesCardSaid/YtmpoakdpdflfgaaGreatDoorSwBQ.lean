/- Part of a proof over this seat: a library of my own, and what it says of this seat. No statement is proved here. -/
import Derived.Test.YtmpoakdpdflfgaaGreatDoorSwBJ
import Derived.Test.YtmpoakdpdflfgaaGreatDoorSwBM
import Derived.Test.YtmpoakdpdflfgaaGreatDoorSwBL
import Derived.Test.YtmpoakdpdflfgaaGreatDoorSwBI
import Derived.Test.YtmpoakdpdflfgaaGreatDoorSwBN
import Derived.Test.YtmpoakdpdflfgaaGreatDoorSwBP
namespace Go.Dec
open Go.Proofs
abbrev shown16A:List Ty:=[]
abbrev shown16R:List Ty:=[.bool]
theorem shown16_pure (n:Nat):Pure Tryz.prog 9 shown16A shown16R (shown16 n):=Tryz.shown16
end Go.Dec
