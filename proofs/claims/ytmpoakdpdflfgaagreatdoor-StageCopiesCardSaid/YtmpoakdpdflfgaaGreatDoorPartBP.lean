/- Part of a proof over this seat: a library of my own, and what it says of this seat. No statement is proved here. -/
import Derived.Test.YtmpoakdpdflfgaaGreatDoorPartBJ
import Derived.Test.YtmpoakdpdflfgaaGreatDoorPartBM
import Derived.Test.YtmpoakdpdflfgaaGreatDoorPartBL
import Derived.Test.YtmpoakdpdflfgaaGreatDoorPartBI
import Derived.Test.YtmpoakdpdflfgaaGreatDoorPartBN
import Derived.Test.YtmpoakdpdflfgaaGreatDoorPartBO
namespace Go.Dec
open Go.Proofs
abbrev zDl : List Ty:=[]
abbrev zDm : List Ty:=[.bool]
theorem zDn (n : Nat) : Pure Tryz.prog 9 zDl zDm (shown16 n):=Tryz.shown16
end Go.Dec
