/- Part of a proof over this seat: a library of my own, and what it says of this seat. No statement is proved here. -/
import Derived.Test.YtdgneppobefaoaaGreatDoorPartAK
import Derived.Lib.IndexMore
import Derived.Lib.Bytealg
import Derived.Lib.Replace
import Derived.Lib.SplitLaws
import Derived.Test.YtdgneppobefaoaaGreatDoorPartBB
import Derived.Test.YtdgneppobefaoaaGreatDoorPartAM
namespace Go.Dec
def strings_IndexByte (_n:Nat) (x:List UInt8 × Int):Option Int:=some (Go.Lib.indexByte x.1 x.2.toNat.toUInt8)
end Go.Dec
namespace Go.Dec
def shown13 (_n:Nat) (_x:Unit):Option Bool:=some true
end Go.Dec
