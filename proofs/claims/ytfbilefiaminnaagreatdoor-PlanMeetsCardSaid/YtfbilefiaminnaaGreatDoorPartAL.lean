/- Part of a proof over this seat: a library of my own, and what it says of this seat. No statement is proved here. -/
import Derived.Test.YtfbilefiaminnaaGreatDoorPartAK
import Derived.Lib.IndexMore
import Derived.Lib.Bytealg
namespace Go.Dec
def strings_Cut (_n:Nat) (x:List UInt8×List UInt8):Option (List UInt8×List UInt8×Bool):=chk (decide (x.1.length < 4294967281)) (some (Go.Lib.cut x.1 x.2))
def strings_IndexByte (_n:Nat) (x:List UInt8×Int):Option Int:=some (Go.Lib.indexByte x.1 x.2.toNat.toUInt8)
def isDigit (c:UInt8):Bool:=decide (48<=c.toNat)&&decide (c.toNat<=57)
def yJn (s:List UInt8):Nat:=s.foldl (fun a c=>a * 10+(c.toNat - 48)) 0
def strconv_Atoi(_n:Nat)(x:List UInt8):Option (Int × Bool):=chk (Nat.ble x.length 18&&x.all isDigit) (some (match x with|[]=>(0,true)|_=>((yJn x:Nat),false)))
end Go.Dec
