/- Part of a proof over this seat: a library of my own, and what it says of this seat. No statement is proved here. -/
import Derived.Test.YtmpoakdpdflfgaaGreatDoorSwAJ
import Derived.Lib.IndexMore
import Derived.Lib.Bytealg
import Derived.Lib.Replace
import Derived.Lib.SplitLaws
import Derived.Test.YtmpoakdpdflfgaaGreatDoorSwBA
import Derived.Test.YtmpoakdpdflfgaaGreatDoorSwAL
namespace Go.Dec
end Go.Dec
namespace Go.Dec
def shown16 (_n:Nat) (_x:Unit):Option Bool:=some true
end Go.Dec
