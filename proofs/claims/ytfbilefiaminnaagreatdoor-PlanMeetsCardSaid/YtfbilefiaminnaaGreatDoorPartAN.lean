/- Part of a proof over this seat: a library of my own, and what it says of this seat. No statement is proved here. -/
import Derived.Test.YtfbilefiaminnaaGreatDoorPartAK
import Derived.Test.YtfbilefiaminnaaGreatDoorPartAF
namespace Go.Dec
def Iy (_n:Nat) (x:List Int×Unit):Option (List Int×Unit):=some x
def Builder_String (_n:Nat) (x:List Int×Unit):Option (List UInt8×List Int×Unit):=chk (x.1.all fun n=>decide (0<=n)&&decide (n < 256)) (some (bN x.1,[],()))
end Go.Dec
