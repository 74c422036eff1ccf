/- Part of a proof over this seat: a library of my own, and what it says of this seat. No statement is proved here. -/
import Derived.Test.YtfbilefiaminnaaGreatDoorPartAL
import Derived.Test.YtfbilefiaminnaaGreatDoorPartAN
import Derived.Lib.ParseIntB
namespace Go.Dec
def yNj(s:List UInt8):Int × Bool:=match Go.Lib.parseUintB 64 s with
 |.ok v=>((v:Nat),false)
 |.syntax=>(0,true)
 |.range=>(18446744073709551615,true)
def tX (_n:Nat) (x:List UInt8×Int×Int):Option (Int×Bool):=chk (x.2.1==10&&(x.2.2==64&&Nat.ble x.1.length 281474976710656)) (some (yNj x.1))
def strings_ContainsAny (_n:Nat) (x:List UInt8×List UInt8):Option Bool:=chk (decide (x.2 = [32,9])&&Nat.ble x.1.length 1000000) (some (x.1.any fun c=>x.2.contains c))
def Zy (_n:Nat) (_x:Unit):Option Unit:=some ()
end Go.Dec
