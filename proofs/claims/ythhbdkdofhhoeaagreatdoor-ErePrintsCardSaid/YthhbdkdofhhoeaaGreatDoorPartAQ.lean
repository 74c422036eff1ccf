/- Part of a proof over this seat: a library of my own, and what it says of this seat. No statement is proved here. -/
import Derived.Test.YthhbdkdofhhoeaaGreatDoorPartAL
import Derived.Lib.IndexMore
import Derived.Lib.Bytealg
import Derived.Lib.IndexAny
import Derived.Lib.AtoiAllCases
namespace Go.Dec
def strings_Cut (_n:Nat) (x:List UInt8×List UInt8):Option (List UInt8×List UInt8×Bool):=chk (decide (x.1.length < 4294967281)) (some (Go.Lib.cut x.1 x.2))
def strings_IndexByte (_n:Nat) (x:List UInt8×Int):Option Int:=some (Go.Lib.indexByte x.1 x.2.toNat.toUInt8)
def Cg:Nat->Nat->List UInt8
 |0,_=>[]
 |k+1,u=>if u<10 then [UInt8.ofNat (48+u)]else Cg k (u / 10)++[UInt8.ofNat (48+u % 10)]
def bM(n:Int):List UInt8:=if n<0 then 45::Cg 20 n.natAbs else Cg 20 n.toNat
def strconv_Itoa (_n:Nat) (x:Int):Option (List UInt8):=chk (decide (-9223372036854775808<=x)&&decide (x<=9223372036854775807)) (some (bM x))
def isDigit (c:UInt8):Bool:=decide (48<=c.toNat)&&decide (c.toNat<=57)
def dZ (s:List UInt8):Nat:=s.foldl (fun a c=>a * 10+(c.toNat - 48)) 0
def hexDigit(n:Nat):UInt8:=if n<10 then UInt8.ofNat (48+n)else UInt8.ofNat (87+n)
def lG (_n:Nat) (x:Int×Int):Option (List UInt8):=chk (decide (x.2 = 16)&&(decide (0<=x.1)&&decide (x.1 < 16))) (some [hexDigit x.1.toNat])
def Bl:List (List UInt8)->List UInt8->List UInt8 | [],_=>[] | [x],_=>x | x :: y :: r,sep=>x++sep++Bl (y :: r) sep
def strings_Join (_n:Nat) (x:List (List UInt8)×List UInt8):Option (List UInt8):=chk (Nat.ble x.1.length room&&Nat.ble (Bl x.1 x.2).length room) (some (Bl x.1 x.2))
def zKe (i w:Nat):List UInt8:=((List.range 64).filter fun k=>w.testBit k).map fun k=>UInt8.ofNat (64*i+k)
def Mr:Nat->List Int->List UInt8 | _,[]=>[] | i,w :: r=>zKe i w.toNat++Mr (i+1) r
def oZ (ws:List Int):List UInt8:=Mr 0 ws
def sF (_n:Nat) (x:List Int):Option (List UInt8):=chk (Nat.beq x.length 4&&x.all fun w=>decide (0<=w)&&decide (w < 18446744073709551616)) (some (oZ x))
end Go.Dec
namespace Go.Dec
def strings_Contains (_n:Nat) (x:List UInt8×List UInt8):Option Bool:=chk (decide (x.1.length < 4294967281)) (some (Go.Lib.contains x.1 x.2))
end Go.Dec
namespace Go.Dec
def zKf(x:List UInt8):Int × Bool:=match Go.Lib.atoiAll x with
 |.ok v=>(v,false)
 |.«syntax» => (0,true)
 |.range=>(Go.Lib.atoiSat x,true)
def Bn (_n:Nat) (x:List UInt8):Option (Int×Bool):=chk (Nat.ble x.length 281474976710656) (some (zKf x))
end Go.Dec
