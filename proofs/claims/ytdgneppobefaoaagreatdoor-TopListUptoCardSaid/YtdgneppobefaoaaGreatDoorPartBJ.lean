/- Part of a proof over this seat: a library of my own, and what it says of this seat. No statement is proved here. -/
import Derived.Test.YtdgneppobefaoaaGreatDoorPartAJ
import Derived.Lib.IndexMore
import Derived.Lib.Bytealg
import Derived.Lib.Replace
import Derived.Lib.SplitLaws
import Derived.Test.YtdgneppobefaoaaGreatDoorPartBA
import Derived.Test.YtdgneppobefaoaaGreatDoorPartAL
namespace Go.Dec
def strings_Cut (_n:Nat) (x:List UInt8 × List UInt8):Option (List UInt8 × List UInt8 × Bool):=chk (decide (x.1.length < 4294967281)) (some (Go.Lib.cut x.1 x.2))
def strings_IndexByte (_n:Nat) (x:List UInt8 × Int):Option Int:=some (Go.Lib.indexByte x.1 x.2.toNat.toUInt8)
end Go.Dec
namespace Go.Dec
def showntop (_n:Nat) (_x:Unit):Option Bool:=some true
def gJ (_n:Nat) (x:List UInt8):Option (List (List UInt8 × Bool × Unit)):=chk (decide (x.length < 4294967281)) (some (bU x))
end Go.Dec
