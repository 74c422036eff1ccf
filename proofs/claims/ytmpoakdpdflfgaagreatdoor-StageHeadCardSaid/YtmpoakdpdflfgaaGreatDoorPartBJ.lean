/- Part of a proof over this seat: a library of my own, and what it says of this seat. No statement is proved here. -/
import Derived.Test.YtmpoakdpdflfgaaGreatDoorPartAJ
import Derived.Lib.IndexMore
import Derived.Lib.Bytealg
import Derived.Lib.Replace
import Derived.Lib.SplitLaws
import Derived.Test.YtmpoakdpdflfgaaGreatDoorPartBA
import Derived.Test.YtmpoakdpdflfgaaGreatDoorPartAL
namespace Go.Dec
end Go.Dec
namespace Go.Dec
def shown16 (_n:Nat) (_x:Unit):Option Bool:=some true
def qO (_n:Nat) (x:List UInt8):Option (List (List UInt8 × Bool × Unit)):=chk (decide (x.length < 4294967281)) (some (aL x))
end Go.Dec
