import Derived.Lib.ParseIntB
import Derived.Test.YtfbilefiaminnaaGreatDoorPtrtAG
import Derived.Lib.SlicesCompact
import Derived.Shelf.SlIter.Nil
import Derived.Shelf.SortM.Plain
import Derived.Shelf.SortM.SortNone
import Derived.Test.YtfbilefiaminnaaGreatDoorProg
open Go.IntKind renaming wrap->qEq
open Nat renaming ble->qBg
open List renaming replicate->qAf
namespace Go.Dec
def Kl (_n:Nat) (x:List Int×Unit):Option (List Int×Unit):=some x
def Builder_String (_n:Nat) (x:List Int×Unit):Option (List UInt8×List Int×Unit):=chk (x.1.all fun n=>decide (0<=n)&&decide (n < 256)) (some (bV x.1,[],()))
def yTk(s:List UInt8):Int × Bool:=match Go.Lib.parseUintB 64 s with
 |.ok v=>((v:Nat),false)
 |.syntax=>(0,true)
 |.range=>(18446744073709551615,true)
def uO (_n:Nat) (x:List UInt8×Int×Int):Option (Int×Bool):=chk (x.2.1==10&&(x.2.2==64&&qBg x.1.length 281474976710656)) (some (yTk x.1))
def strings_ContainsAny (_n:Nat) (x:List UInt8×List UInt8):Option Bool:=chk (decide (x.2 = [32,9])&&qBg x.1.length 1000000) (some (x.1.any fun c=>x.2.contains c))
def zDe (_n:Nat) (_x:Unit):Option Unit:=some ()
set_option linter.unusedVariables false
abbrev qI:Ty:=.pair .str (.pair (.slice .str) (.pair .bool .unit))
abbrev aU:Ty:=.pair (.slice aT) (.pair .bool .unit)
abbrev Fh:Ty:=.pair (.int .i64) (.pair (.int .i64) (.pair (.int .i64) .unit))
abbrev rQ:Ty:=.pair Fh (.pair Fh (.pair .bool .unit))
abbrev aB:Ty:=.pair rQ (.pair (.int .u8) (.pair .str (.pair .str (.pair (.int .i64) (.pair (.int .i64) (.pair (.int .i64) (.pair (.slice iL) (.pair .bool (.pair .bool .unit)))))))))
abbrev iH:Ty:=.pair .bool (.pair (.slice aU) (.pair (.slice aB) .unit))
abbrev aO:Ty:=.pair iH (.pair .bool (.pair (.slice .str) (.pair .bool .unit)))
abbrev gG:Ty:=.pair (.int .i64) (.pair (.int .i64) (.pair .str .unit))
abbrev Sc0:Type:=List UInt8 × Bool × Int × Int × Bool × Int × Int × Int × Int × Int × Int × Bool × Int × List UInt8 × List UInt8 × Int × Int × Int × List (List UInt8 × Int × Unit) × Bool × Bool × List (List (NdT) × Bool × Unit) × List (((Int × Int × Int × Unit) × (Int × Int × Int × Unit) × Bool × Unit) × Int × List UInt8 × List UInt8 × Int × Int × Int × List (List UInt8 × Int × Unit) × Bool × Bool × Unit) × List (Int × Int × List UInt8 × Unit) × List (Int × Int × List UInt8 × Unit) × List (List UInt8 × Int) × Unit
abbrev Sc1:Type:=((Int × Int × Int × Unit) × (Int × Int × Int × Unit) × Bool × Unit) × Int × List UInt8 × List UInt8 × Int × Int × Int × List (List UInt8 × Int × Unit) × Bool × Bool × Unit
abbrev Sc2:Type:=List UInt8 × Bool × Int × Value × Bool × Value × Int × Int × Int × Int × Int × Int × Bool × Int × List UInt8 × List UInt8 × Int × Int × Int × List (List UInt8 × Int × Unit) × Bool × Bool × Value × List (List (NdT) × Bool × Unit) × List (Int × Int × List UInt8 × Unit) × List (List UInt8 × Int) × Unit
abbrev Sc3:Type:=List UInt8 × Bool × Int × Int × Bool × Int × Int × Int × Int × Int × Int × Bool × Int × List UInt8 × List UInt8 × Int × Int × Int × List (List UInt8 × Int × Unit) × Bool × Bool × List (List (NdT) × Bool × Unit) × List (Sc1) × List (Int × Int × List UInt8 × Unit) × List (Int × Int × List UInt8 × Unit) × List (List UInt8 × Int) × List (List UInt8 × Int) × Unit
abbrev Sc4:Type:=List UInt8 × Bool × Int × Bool × Int × Int × Int × Int × Int × Int × Bool × Int × List UInt8 × List UInt8 × Int × Int × Int × List (List UInt8 × Int × Unit) × Bool × Bool × List (List (NdT) × Bool × Unit) × List (Int × Int × List UInt8 × Unit) × List (List UInt8 × Int) × Unit
abbrev Sc5:Type:=Int × Int × List UInt8 × Unit
abbrev Sc6:Type:=List UInt8 × List (Int) × Unit
def dG (n:Nat) (x:List UInt8×Sc0):Option (Bool×Sc0) :=let xCs:=x.1
 let s2:=x.2.1
 let at4:=x.2.2.2.1
 br (decide (at4<(s2.length:Int))) (chk (inB at4 s2.length) (let v28:Int:=((aM 0 s2 at4).toNat:Int)
 ob (strings_IndexByte n (xCs,v28)) fun y29 =>some ((decide (y29≥0)),x.2))) (some (false,x.2))
def lU (n:Nat) (x:List UInt8×Int):Option (List UInt8×Int) :=let s_0:=x.1
 let uX:=x.2
 br (decide (uX < 0)) (chk ((decide (0<=(s_0.length:Int))&&decide ((s_0.length:Int)<=(s_0.length:Int)))) (let v1:List UInt8:=s_0.drop (s_0.length:Int).toNat
 some (v1,(s_0.length:Int)))) (br (decide (uX>(s_0.length:Int))) (chk ((decide (0<=(s_0.length:Int))&&decide ((s_0.length:Int)<=(s_0.length:Int)))) (let v2:List UInt8:=s_0.drop (s_0.length:Int).toNat
 some (v2,(s_0.length:Int)))) (chk ((decide (0<=uX)&&decide (uX<=(s_0.length:Int)))) (some (s_0.drop uX.toNat,uX))))
def Uz (n:Nat) (g0:List UInt8×Int×Unit->Option (List UInt8)) (x1:List UInt8×Int×Unit):Option (List UInt8) :=let s_2:=x1.1
 let c_3:=x1.2.1
 br (decide ((s_2.length:Int) > 0)) (chk (inB 0 s_2.length) (let v4:Int:=((aM 0 s_2 0).toNat:Int)
 br (v4==c_3) (chk ((decide (0<=(1:Int))&&decide ((1:Int)<=(s_2.length:Int)))) (g0 (s_2.drop (1:Int).toNat,c_3,()))) (some s_2))) (some s_2)
def strings_trimLeftByte (n:Nat) (x:List UInt8×Int):Option (List UInt8) :=let s_0:=x.1
 let c_1:=x.2
 fix (Uz n) n (s_0,c_1,())
def Va (n:Nat) (g0:List UInt8×Int×List (Bool)×Unit->Option (List (Bool)×Bool)) (x1:List UInt8×Int×List (Bool)×Unit):Option (List (Bool)×Bool) :=let zOh:=x1.1
 let i_3:=x1.2.1
 let b4:=x1.2.2.1
 br (decide (i_3<(zOh.length:Int))) (chk (inB i_3 zOh.length) (let v5:Int:=((aM 0 zOh i_3).toNat:Int)
 br (decide (v5≥128)) (some (b4,false)) (chk (inB v5 256) (chk (decide (v5.toNat < 256)) (let v6:Int:=qEq .i64 (i_3+1)
 g0 (zOh,v6,b4.set (v5.toNat) true,())))))) (some (b4,true))
def strings_makeASCIISet (n:Nat) (x:List UInt8):Option (List (Bool)×Bool) :=let xCt:=x
 fix (Va n) n (xCt,0,(qAf 256 false),())
def gF (n:Nat) (x:Int×List (Bool)×Unit):Option (Bool×List (Bool)×Unit) :=let c_1:=x.1
 let b2:=x.2.1
 chk (inB c_1 256) (chk (decide (c_1.toNat < 256)) (some (b2.getD (c_1.toNat) (Ty.dflt .bool),b2,())))
def mU (n:Nat) (g0:List UInt8×List (Bool)×Unit->Option (List UInt8×List (Bool)×Unit)) (x3:List UInt8×List (Bool)×Unit):Option (List UInt8×List (Bool)×Unit) :=let s_4:=x3.1
 let b5:=x3.2.1
 br (decide ((s_4.length:Int) > 0)) (chk (inB 0 s_4.length) (let v6:Int:=((aM 0 s_4 0).toNat:Int)
 ob (gF n (v6,b5,())) fun y7 =>br (!y7.1) (some (s_4,y7.2.1,())) (chk ((decide (0<=(1:Int))&&decide ((1:Int)<=(s_4.length:Int)))) (g0 (s_4.drop (1:Int).toNat,y7.2.1,()))))) (some (s_4,b5,()))
def strings_trimLeftASCII (n:Nat) (x:List UInt8×List (Bool)×Unit):Option (List UInt8×List (Bool)×Unit) :=let s_1:=x.1
 let b2:=x.2.1
 fix (mU n) n (s_1,b2,())
def jU (n:Nat) (x:List UInt8×List UInt8):Option (List UInt8) :=let s_0:=x.1
 let kZ:=x.2
 br (s_0==[]) (some s_0) (br (kZ==[]) (some s_0) (br ((kZ.length:Int)==1) (chk (inB 0 kZ.length) (let v1:Int:=((aM 0 kZ 0).toNat:Int)
 br (decide (v1 < 128)) (chk (inB 0 kZ.length) (let v2:Int:=((aM 0 kZ 0).toNat:Int)
 ob (strings_trimLeftByte n (s_0,v2)) fun y3 =>some y3)) (ob (strings_makeASCIISet n kZ) fun y4 =>br y4.2 (ob (strings_trimLeftASCII n (s_0,y4.1,())) fun y5 =>some y5.1) (none)))) (ob (strings_makeASCIISet n kZ) fun y6 =>br y6.2 (ob (strings_trimLeftASCII n (s_0,y6.1,())) fun y7 =>some y7.1) (none))))
def nM (n:Nat) (x:List UInt8×Int):Option (Int) :=let s_0:=x.1
 let uX:=x.2
 ob (lU n (s_0,uX)) fun y1 =>ob (jU n (y1.1,[32,9])) fun y2 =>let v3:Int:=qEq .i64 ((s_0.length:Int)-(y2.length:Int))
 some v3
def bR (n:Nat) (x:Sc0):Option (Sc0) :=let s1:=x.1
 let xE:=x.2.1
 let at3:=x.2.2.1
 ob (nM n (s1,at3)) fun y27 =>some (s1,xE,y27,x.2.2.2)
def Te (n:Nat) (g0:List UInt8×Int×Unit->Option (List UInt8)) (x1:List UInt8×Int×Unit):Option (List UInt8) :=let s_2:=x1.1
 let c_3:=x1.2.1
 br (decide ((s_2.length:Int) > 0)) (let v4:Int:=qEq .i64 ((s_2.length:Int) - 1)
 chk (inB v4 s_2.length) (let v5:Int:=((aM 0 s_2 v4).toNat:Int)
 br (v5==c_3) (let v6:Int:=qEq .i64 ((s_2.length:Int) - 1)
 chk ((decide (0<=v6)&&decide (v6<=(s_2.length:Int)))) (g0 (s_2.take v6.toNat,c_3,()))) (some s_2))) (some s_2)
def strings_trimRightByte (n:Nat) (x:List UInt8×Int):Option (List UInt8) :=let s_0:=x.1
 let c_1:=x.2
 fix (Te n) n (s_0,c_1,())
def rR (n:Nat) (g0:List UInt8×List (Bool)×Unit->Option (List UInt8×List (Bool)×Unit)) (x3:List UInt8×List (Bool)×Unit):Option (List UInt8×List (Bool)×Unit) :=let s_4:=x3.1
 let b5:=x3.2.1
 br (decide ((s_4.length:Int) > 0)) (let v6:Int:=qEq .i64 ((s_4.length:Int) - 1)
 chk (inB v6 s_4.length) (let v7:Int:=((aM 0 s_4 v6).toNat:Int)
 ob (gF n (v7,b5,())) fun y8 =>br (!y8.1) (some (s_4,y8.2.1,())) (let v9:Int:=qEq .i64 ((s_4.length:Int) - 1)
 chk ((decide (0<=v9)&&decide (v9<=(s_4.length:Int)))) (g0 (s_4.take v9.toNat,y8.2.1,()))))) (some (s_4,b5,()))
def strings_trimRightASCII (n:Nat) (x:List UInt8×List (Bool)×Unit):Option (List UInt8×List (Bool)×Unit) :=let s_1:=x.1
 let b2:=x.2.1
 fix (rR n) n (s_1,b2,())
def kH (n:Nat) (x:List UInt8×List UInt8):Option (List UInt8) :=let s_0:=x.1
 let kZ:=x.2
 br (s_0==[]) (some s_0) (br (kZ==[]) (some s_0) (br ((kZ.length:Int)==1) (chk (inB 0 kZ.length) (let v1:Int:=((aM 0 kZ 0).toNat:Int)
 br (decide (v1 < 128)) (chk (inB 0 kZ.length) (let v2:Int:=((aM 0 kZ 0).toNat:Int)
 ob (strings_trimRightByte n (s_0,v2)) fun y3 =>some y3)) (ob (strings_makeASCIISet n kZ) fun y4 =>br y4.2 (ob (strings_trimRightASCII n (s_0,y4.1,())) fun y5 =>some y5.1) (none)))) (ob (strings_makeASCIISet n kZ) fun y6 =>br y6.2 (ob (strings_trimRightASCII n (s_0,y6.1,())) fun y7 =>some y7.1) (none))))
def nU (n:Nat) (g0:Int×List UInt8×List UInt8×Int×Unit->Option (List UInt8×Int)) (x2:Int×List UInt8×List UInt8×Int×Unit):Option (List UInt8×Int) :=let yPh:=x2.1
 let yTl:=x2.2.1
 let Cm:=x2.2.2.1
 let i_6:=x2.2.2.2.1
 br (decide (i_6<(Cm.length:Int))) (chk (inB i_6 Cm.length) (let v7:Int:=((aM 0 Cm i_6).toNat:Int)
 br (v7 != 10) (chk (inB i_6 Cm.length) (let v8:Int:=((aM 0 Cm i_6).toNat:Int)
 ob (strings_IndexByte n (yTl,v8)) fun y9 =>br (decide (y9 < 0)) (let v10:Int:=qEq .i64 (i_6+1)
 g0 (yPh,yTl,Cm,v10,())) (chk ((decide (0<=i_6)&&decide (i_6<=(Cm.length:Int)))) (ob (kH n (Cm.take i_6.toNat,[32,9])) fun y11 =>let v12:Int:=qEq .i64 (yPh+i_6)
 some (y11,v12))))) (chk ((decide (0<=i_6)&&decide (i_6<=(Cm.length:Int)))) (ob (kH n (Cm.take i_6.toNat,[32,9])) fun y13 =>let v14:Int:=qEq .i64 (yPh+i_6)
 some (y13,v14))))) (chk ((decide (0<=i_6)&&decide (i_6<=(Cm.length:Int)))) (ob (kH n (Cm.take i_6.toNat,[32,9])) fun y15 =>let v16:Int:=qEq .i64 (yPh+i_6)
 some (y15,v16)))
def sD (n:Nat) (x:List UInt8×Int×List UInt8):Option (List UInt8×Int) :=let s_0:=x.1
 let uX:=x.2.1
 let yFk:=x.2.2
 ob (lU n (s_0,uX)) fun y1 =>fix (nU n) n (y1.2,yFk,y1.1,0,())
def eB (n:Nat) (x:List UInt8×Sc0):Option (List UInt8×Sc0) :=let yFn:=x.1
 ob (bR n (x.2)) fun y28 =>ob (sD n (y28.1,y28.2.2.1,yFn)) fun y29 =>some (y29.1,y28.1,y28.2.1,y29.2,y28.2.2.2)
def Fj (n:Nat) (x:List UInt8×Int):Option (Int×Int×Int) :=let s_0:=x.1
 let uX:=x.2
 ob (lU n (s_0,uX)) fun y1 =>ob (jU n (y1.1,[48,49,50,51,52,53,54,55,56,57])) fun y2 =>let v3:Int:=qEq .i64 ((y1.1.length:Int)-(y2.length:Int))
 chk ((decide (0<=v3)&&decide (v3<=(y1.1.length:Int)))) (ob (uO n (y1.1.take v3.toNat,10,64)) fun y4 =>br ((y1.1.take v3.toNat)==[]) (some (0,y1.2,3)) (br (!(!y4.2)) (some (0,y1.2,1)) (br (decide (y4.1 > 999999999)) (some (0,y1.2,1)) (let v5:Int:=((y1.1.take v3.toNat).length:Int)
 let v6:Int:=qEq .i64 (y1.2+v5)
 some (qEq .i64 y4.1,v6,0)))))
def bB (_n:Nat) (x:Int×Unit):Option (Sum (Unit) (Int×Unit)):=some (.inr x)
def dY (n:Nat) (x:Int×Sc0):Option (Sum (Int×Sc0) (Int×Sc0)) :=let xCu:=x.1
 let s2:=x.2.1
 let yFo:=x.2.2.1
 let at4:=x.2.2.2.1
 ob (Fj n (s2,at4)) fun y28 =>br (y28.2.2 != 0) (ob2 (bB n (xCu,())) (fun y29 =>none) (fun y29 =>some (.inr (y29.1,x.2)))) (some (.inl (y28.1,s2,yFo,y28.2.1,x.2.2.2.2)))
def dK (n:Nat) (x:List UInt8×Sc0):Option (Bool×Sc0) :=ob (dG n (x)) fun y28 =>br (!y28.1) (some (false,y28.2)) (let v29:Int:=qEq .i64 (y28.2.2.2.1+1)
 some (true,y28.2.1,y28.2.2.1,v29,y28.2.2.2.2))
def fP (n:Nat) (x:Sc0):Option (Sum (Int×Sc0) (Int×Sc0)) :=let s1:=x.1
 let xE:=x.2.1
 let at3:=x.2.2.1
 br (at3==(s1.length:Int)) (ob2 (bB n (120,())) (fun y27 =>none) (fun y27 =>some (.inr (y27.1,x)))) (let v28:Int:=qEq .i64 (at3+1)
 let v29:Int:=qEq .i64 (v28 - 1)
 chk (inB v29 s1.length) (let v30:Int:=((aM 0 s1 v29).toNat:Int)
 some (.inl (v30,s1,xE,v28,x.2.2.2))))
def eT (n:Nat) (x:Sc6):Option (Int×Bool×List (Int)×Unit) :=let s_1:=x.1
 let Np:=x.2.1
 ob (Kl n (Np,())) fun y3 =>chk (qBg ((y3.1.length+s_1.length) * 1) room) (some ((s_1.length:Int),false,y3.1++eH s_1,()))
def sQ (n:Nat) (x:List UInt8×Sc6):Option (Bool×Sc6) :=let Nq:=x.1
 let b2:=x.2.1
 let zSc:=x.2.2.1
 br (Nq==b2) (some (false,b2,zSc,())) (br (Nq==[10]) (some (false,b2,zSc,())) (br (Nq==[92]) (some (false,b2,zSc,())) (chk (decide ([92].length+b2.length<=qV)) (br (Nq==([92]++b2)) (ob (eT n (b2,zSc,())) fun y4 =>some (true,b2,y4.2.2.1,())) (ob (eT n (Nq,zSc,())) fun y5 =>some (true,b2,y5.2.2.1,()))))))
def wZ (n:Nat) (g0:List UInt8×Int×List UInt8×List (Int)×Unit->Option (Int×Sc6)) (x4:List UInt8×Int×Sc6):Option (Int×Sc6) :=let s_5:=x4.1
 let i_6:=x4.2.1
 let b7:=x4.2.2.1
 let yFp:=x4.2.2.2.1
 br (decide (i_6<(s_5.length:Int))) (chk (inB i_6 s_5.length) (let v9:Int:=((aM 0 s_5 i_6).toNat:Int)
 br (v9==92) (let v10:Int:=qEq .i64 (i_6+1)
 br (decide (v10<(s_5.length:Int))) (let v11:Int:=qEq .i64 (i_6+2)
 chk ((decide (0<=v11)&&decide (v11<=(s_5.length:Int))&&(decide (0<=i_6)&&decide (i_6<=v11)))) (let v12:List UInt8:=(s_5.take v11.toNat).drop i_6.toNat
 ob (sQ n (v12,b7,yFp,())) fun y13 =>br (!y13.1) (some (i_6,y13.2.1,y13.2.2.1,())) (let v14:Int:=qEq .i64 (i_6+2)
 g0 (s_5,v14,y13.2.1,y13.2.2.1,())))) (let v15:Int:=qEq .i64 (i_6+1)
 chk ((decide (0<=v15)&&decide (v15<=(s_5.length:Int))&&(decide (0<=i_6)&&decide (i_6<=v15)))) (let v16:List UInt8:=(s_5.take v15.toNat).drop i_6.toNat
 ob (sQ n (v16,b7,yFp,())) fun y17 =>br (!y17.1) (some (i_6,y17.2.1,y17.2.2.1,())) (let v18:Int:=qEq .i64 (i_6+1)
 g0 (s_5,v18,y17.2.1,y17.2.2.1,()))))) (let v19:Int:=qEq .i64 (i_6+1)
 chk ((decide (0<=v19)&&decide (v19<=(s_5.length:Int))&&(decide (0<=i_6)&&decide (i_6<=v19)))) (let v20:List UInt8:=(s_5.take v19.toNat).drop i_6.toNat
 ob (sQ n (v20,b7,yFp,())) fun y21 =>br (!y21.1) (some (i_6,y21.2.1,y21.2.2.1,())) (let v22:Int:=qEq .i64 (i_6+1)
 g0 (s_5,v22,y21.2.1,y21.2.2.1,())))))) (some (x4.2))
def kM (n:Nat) (x:List UInt8×Sc6):Option (Int×Sc6) :=let s_1:=x.1
 let b2:=x.2.1
 let zSc:=x.2.2.1
 fix (wZ n) n (s_1,0,b2,zSc,())
def Nr (n:Nat) (x:List UInt8×Int×Int):Option (List UInt8×Int×Int) :=let s_0:=x.1
 let uX:=x.2.1
 let d_2:=x.2.2
 ob (lU n (s_0,uX)) fun y1 =>br ((bV [d_2])==[92]) (some ([],y1.2,120)) (br ((bV [d_2])==[10]) (some ([],y1.2,120)) (ob (kM n (y1.1,bV [d_2],[],())) fun y2 =>chk ((decide (0<=y2.1)&&decide (y2.1<=(y1.1.length:Int)))) (ob (strings_HasPrefix n (y1.1.drop y2.1.toNat,y2.2.1)) fun y3 =>br (!y3) (some ([],y1.2,120)) (ob (Builder_String n (y2.2.2.1,())) fun y4 =>let v5:Int:=qEq .i64 (y1.2+y2.1)
 let v6:Int:=qEq .i64 (v5+1)
 some (y4.1,v6,0)))))
def iI (n:Nat) (x:Int×Unit):Option (Sum (Unit) (Int×Unit)) :=let e_1:=x.1
 br (e_1 != 0) (ob2 (bB n (e_1,())) (fun y2 =>none) (fun y2 =>some (.inr (y2.1,())))) (some (.inl ()))
def fB (n:Nat) (x:Int×Sc0):Option (Sum (List UInt8×Sc0) (Int×Sc0)) :=let d_1:=x.1
 let s2:=x.2.1
 let yFo:=x.2.2.1
 let at4:=x.2.2.2.1
 ob (Nr n (s2,at4,d_1)) fun y28 =>ob2 (iI n (y28.2.2,())) (fun y29 =>some (.inl (y28.1,s2,yFo,y28.2.1,x.2.2.2.2))) (fun y29 =>some (.inr (y29.1,x.2)))
def fZ (n:Nat) (x:Int×Sc0):Option (Sum (Int×Sc0) (Int×Sc0)) :=let yFo:=x.2.2.1
 br yFo (ob2 (fB n (x)) (fun y28 =>none) (fun y28 =>some (.inr (y28)))) (ob2 (fB n (x)) (fun y29 =>ob (Lx n y29.1) fun y30 =>ob2 (iI n (y30.2.2,())) (fun y31 =>let v32:Int:=((y29.2.2.2.2.2.2.2.2.2.2.2.2.2.2.2.2.2.2.2.2.2.2.1.length:Nat):Int)
 br (v32==999) (ob2 (bB n (2,())) (fun y33 =>none) (fun y33 =>some (.inr (y33.1,y29.2)))) (chk (qBg ((y29.2.2.2.2.2.2.2.2.2.2.2.2.2.2.2.2.2.2.2.2.2.2.1.length+([(y30.1,(false,()))]:List (List (NdT)×Bool×Unit)).length) * 32) room) (let r34:List (List (NdT)×Bool×Unit):=y29.2.2.2.2.2.2.2.2.2.2.2.2.2.2.2.2.2.2.2.2.2.2.1++[(y30.1,(false,()))]
 let v35:Int:=((r34.length:Nat):Int)
 let v36:Int:=qEq .i64 (v35 - 1)
 some (.inl (v36,y29.2.1,y29.2.2.1,y29.2.2.2.1,y29.2.2.2.2.1,y29.2.2.2.2.2.1,y29.2.2.2.2.2.2.1,y29.2.2.2.2.2.2.2.1,y29.2.2.2.2.2.2.2.2.1,y29.2.2.2.2.2.2.2.2.2.1,y29.2.2.2.2.2.2.2.2.2.2.1,y29.2.2.2.2.2.2.2.2.2.2.2.1,y29.2.2.2.2.2.2.2.2.2.2.2.2.1,y29.2.2.2.2.2.2.2.2.2.2.2.2.2.1,y29.2.2.2.2.2.2.2.2.2.2.2.2.2.2.1,y29.2.2.2.2.2.2.2.2.2.2.2.2.2.2.2.1,y29.2.2.2.2.2.2.2.2.2.2.2.2.2.2.2.2.1,y29.2.2.2.2.2.2.2.2.2.2.2.2.2.2.2.2.2.1,y29.2.2.2.2.2.2.2.2.2.2.2.2.2.2.2.2.2.2.1,y29.2.2.2.2.2.2.2.2.2.2.2.2.2.2.2.2.2.2.2.1,y29.2.2.2.2.2.2.2.2.2.2.2.2.2.2.2.2.2.2.2.2.1,y29.2.2.2.2.2.2.2.2.2.2.2.2.2.2.2.2.2.2.2.2.2.1,r34,y29.2.2.2.2.2.2.2.2.2.2.2.2.2.2.2.2.2.2.2.2.2.2.2))))) (fun y31 =>some (.inr (y31.1,y29.2)))) (fun y29 =>some (.inr (y29))))
def iD (n:Nat) (x:Sc0):Option (Sc0) :=let s1:=x.1
 let xE:=x.2.1
 let at3:=x.2.2.1
 let pQ:=x.2.2.2.1
 let uP:=x.2.2.2.2.1
 let zP:=x.2.2.2.2.2.1
 let N7:=x.2.2.2.2.2.2.1
 let M8:=x.2.2.2.2.2.2.2.1
 let zQ:=x.2.2.2.2.2.2.2.2.1
 let N10:=x.2.2.2.2.2.2.2.2.2.1
 let M11:=x.2.2.2.2.2.2.2.2.2.2.1
 let zR:=x.2.2.2.2.2.2.2.2.2.2.2.1
 let Fp:=x.2.2.2.2.2.2.2.2.2.2.2.2.1
 let uQ:=x.2.2.2.2.2.2.2.2.2.2.2.2.2.1
 let uR:=x.2.2.2.2.2.2.2.2.2.2.2.2.2.2.1
 let N16:=x.2.2.2.2.2.2.2.2.2.2.2.2.2.2.2.1
 let Yw:=x.2.2.2.2.2.2.2.2.2.2.2.2.2.2.2.2.1
 let Ht:=x.2.2.2.2.2.2.2.2.2.2.2.2.2.2.2.2.2.1
 let vR:=x.2.2.2.2.2.2.2.2.2.2.2.2.2.2.2.2.2.2.1
 let Hu:=x.2.2.2.2.2.2.2.2.2.2.2.2.2.2.2.2.2.2.2.1
 let vS:=x.2.2.2.2.2.2.2.2.2.2.2.2.2.2.2.2.2.2.2.2.1
 let qR:=x.2.2.2.2.2.2.2.2.2.2.2.2.2.2.2.2.2.2.2.2.2.1
 let v27:Int:=((qR.length:Nat):Int)
 let v28:Int:=qEq .i64 (v27 - 1)
 chk ((inB v28 (qR.length)&&decide (0+(qR.length)<=qR.length))) (chk (decide (0+v28.toNat<qR.length)) (let r29:List (List (NdT)×Bool×Unit):=qR.set (0+v28.toNat) ((qR.getD (0+v28.toNat) (Ty.dflt aU)).1,(true,()))
 some (s1,xE,at3,pQ,uP,zP,N7,M8,zQ,N10,M11,zR,Fp,uQ,uR,N16,Yw,Ht,vR,Hu,vS,r29,x.2.2.2.2.2.2.2.2.2.2.2.2.2.2.2.2.2.2.2.2.2.2)))
def jG (n:Nat) (x43:Bool×Bool×List UInt8×Bool×Int×Int×Bool×Int×Int×Int×Int×Int×Int×Bool×Int×List UInt8×List UInt8×Int×Int×Int×List (List UInt8×Int×Unit)×Bool×Bool×List (List (NdT)×Bool×Unit)×List (Sc1)×List (Sc5)×List (Sc5)×List (List UInt8×Int)×Int×Int×Int×Unit):Option (Sum (Int×Int×Int×Bool×Sc0) (Int×Sc0)) :=let yTm:=x43.1
 let xFr:=x43.2.1
 let s46:=x43.2.2.1
 let yPi:=x43.2.2.2.1
 let yXs:=x43.2.2.2.2.1
 let zYl:=x43.2.2.2.2.2.1
 let zYm:=x43.2.2.2.2.2.2.1
 let yFq:=x43.2.2.2.2.2.2.2.1
 let N52:=x43.2.2.2.2.2.2.2.2.1
 let M53:=x43.2.2.2.2.2.2.2.2.2.1
 let yFr:=x43.2.2.2.2.2.2.2.2.2.2.1
 let N55:=x43.2.2.2.2.2.2.2.2.2.2.2.1
 let M56:=x43.2.2.2.2.2.2.2.2.2.2.2.2.1
 let yPj:=x43.2.2.2.2.2.2.2.2.2.2.2.2.2.1
 let yXt:=x43.2.2.2.2.2.2.2.2.2.2.2.2.2.2.1
 let yFs:=x43.2.2.2.2.2.2.2.2.2.2.2.2.2.2.2.1
 let yFt:=x43.2.2.2.2.2.2.2.2.2.2.2.2.2.2.2.2.1
 let N61:=x43.2.2.2.2.2.2.2.2.2.2.2.2.2.2.2.2.2.1
 let yXu:=x43.2.2.2.2.2.2.2.2.2.2.2.2.2.2.2.2.2.2.1
 let yPk:=x43.2.2.2.2.2.2.2.2.2.2.2.2.2.2.2.2.2.2.2.1
 let zYn:=x43.2.2.2.2.2.2.2.2.2.2.2.2.2.2.2.2.2.2.2.2.1
 let yPl:=x43.2.2.2.2.2.2.2.2.2.2.2.2.2.2.2.2.2.2.2.2.2.1
 let zYo:=x43.2.2.2.2.2.2.2.2.2.2.2.2.2.2.2.2.2.2.2.2.2.2.1
 let yPm:=x43.2.2.2.2.2.2.2.2.2.2.2.2.2.2.2.2.2.2.2.2.2.2.2.1
 let yPn:=x43.2.2.2.2.2.2.2.2.2.2.2.2.2.2.2.2.2.2.2.2.2.2.2.2.1
 let yPo:=x43.2.2.2.2.2.2.2.2.2.2.2.2.2.2.2.2.2.2.2.2.2.2.2.2.2.1
 let yPp:=x43.2.2.2.2.2.2.2.2.2.2.2.2.2.2.2.2.2.2.2.2.2.2.2.2.2.2.1
 let yPq:=x43.2.2.2.2.2.2.2.2.2.2.2.2.2.2.2.2.2.2.2.2.2.2.2.2.2.2.2.1
 let yTn:=x43.2.2.2.2.2.2.2.2.2.2.2.2.2.2.2.2.2.2.2.2.2.2.2.2.2.2.2.2.1
 let N73:=x43.2.2.2.2.2.2.2.2.2.2.2.2.2.2.2.2.2.2.2.2.2.2.2.2.2.2.2.2.2.1
 let M74:=x43.2.2.2.2.2.2.2.2.2.2.2.2.2.2.2.2.2.2.2.2.2.2.2.2.2.2.2.2.2.2.1
 br xFr (ob2 (dY n (121,s46,yPi,yXs,zYl,zYm,yFq,N52,M53,yFr,N55,M56,yPj,yXt,yFs,yFt,N61,yXu,yPk,zYn,yPl,zYo,yPm,yPn,yPo,yPp,yPq,())) (fun y75 =>some (.inl (5,y75.1,0,true,y75.2))) (fun y75 =>some (.inr (y75)))) (br yTm (ob (dK n ([126],s46,yPi,yXs,zYl,zYm,yFq,N52,M53,yFr,N55,M56,yPj,yXt,yFs,yFt,N61,yXu,yPk,zYn,yPl,zYo,yPm,yPn,yPo,yPp,yPq,())) fun y76 =>br y76.1 (ob2 (dY n (121,y76.2)) (fun y77 =>some (.inl (6,y77.1,0,true,y77.2))) (fun y77 =>some (.inr (y77)))) (some (.inl (yTn,N73,M74,false,y76.2)))) (some (.inl (yTn,N73,M74,false,s46,yPi,yXs,zYl,zYm,yFq,N52,M53,yFr,N55,M56,yPj,yXt,yFs,yFt,N61,yXu,yPk,zYn,yPl,zYo,yPm,yPn,yPo,yPp,yPq,()))))
def kT (n:Nat) (x:Bool×Sc0):Option (Sum (Int×Int×Int×Bool×Sc0) (Int×Sc0)) :=let zSd:=x.1
 ob (dG n ([48,49,50,51,52,53,54,55,56,57],x.2)) fun y28 =>br y28.1 (ob2 (dY n (121,y28.2)) (fun y29 =>ob (dK n ([126],y29.2)) fun y30 =>br y30.1 (ob2 (dY n (121,y30.2)) (fun y31 =>some (.inl (3,y29.1,y31.1,true,y31.2))) (fun y31 =>some (.inr (y31)))) (some (.inl (1,y29.1,0,true,y30.2)))) (fun y29 =>some (.inr (y29)))) (ob (dK n ([36],y28.2)) fun y32 =>br y32.1 (some (.inl (2,0,0,true,y32.2))) (ob (dG n ([47,92],y32.2)) fun y33 =>br y33.1 (ob2 (fP n (y33.2)) (fun y34 =>br (y34.1==92) (ob2 (fP n (y34.2)) (fun y35 =>ob2 (fZ n (y35)) (fun y36 =>ob (dK n ([73],y36.2)) fun y37 =>br y37.1 (ob (iD n (y37.2)) fun y38 =>some (.inl (4,y36.1,0,true,y38))) (some (.inl (4,y36.1,0,true,y37.2)))) (fun y36 =>some (.inr (y36)))) (fun y35 =>some (.inr (y35)))) (ob2 (fZ n (y34)) (fun y39 =>ob (dK n ([73],y39.2)) fun y40 =>br y40.1 (ob (iD n (y40.2)) fun y41 =>some (.inl (4,y39.1,0,true,y41))) (some (.inl (4,y39.1,0,true,y40.2)))) (fun y39 =>some (.inr (y39))))) (fun y34 =>some (.inr (y34)))) (br zSd (ob (dK n ([43],y33.2)) fun y42 =>jn (jG n) (zSd,y42.1,y42.2.1,y42.2.2.1,y42.2.2.2.1,y42.2.2.2.2.1,y42.2.2.2.2.2.1,y42.2.2.2.2.2.2.1,y42.2.2.2.2.2.2.2.1,y42.2.2.2.2.2.2.2.2.1,y42.2.2.2.2.2.2.2.2.2.1,y42.2.2.2.2.2.2.2.2.2.2.1,y42.2.2.2.2.2.2.2.2.2.2.2.1,y42.2.2.2.2.2.2.2.2.2.2.2.2.1,y42.2.2.2.2.2.2.2.2.2.2.2.2.2.1,y42.2.2.2.2.2.2.2.2.2.2.2.2.2.2.1,y42.2.2.2.2.2.2.2.2.2.2.2.2.2.2.2.1,y42.2.2.2.2.2.2.2.2.2.2.2.2.2.2.2.2.1,y42.2.2.2.2.2.2.2.2.2.2.2.2.2.2.2.2.2.1,y42.2.2.2.2.2.2.2.2.2.2.2.2.2.2.2.2.2.2.1,y42.2.2.2.2.2.2.2.2.2.2.2.2.2.2.2.2.2.2.2.1,y42.2.2.2.2.2.2.2.2.2.2.2.2.2.2.2.2.2.2.2.2.1,y42.2.2.2.2.2.2.2.2.2.2.2.2.2.2.2.2.2.2.2.2.2.1,y42.2.2.2.2.2.2.2.2.2.2.2.2.2.2.2.2.2.2.2.2.2.2.1,y42.2.2.2.2.2.2.2.2.2.2.2.2.2.2.2.2.2.2.2.2.2.2.2.1,y42.2.2.2.2.2.2.2.2.2.2.2.2.2.2.2.2.2.2.2.2.2.2.2.2.1,y42.2.2.2.2.2.2.2.2.2.2.2.2.2.2.2.2.2.2.2.2.2.2.2.2.2.1,y42.2.2.2.2.2.2.2.2.2.2.2.2.2.2.2.2.2.2.2.2.2.2.2.2.2.2.1,0,0,0,())) (jn (jG n) (zSd,false,y33.2.1,y33.2.2.1,y33.2.2.2.1,y33.2.2.2.2.1,y33.2.2.2.2.2.1,y33.2.2.2.2.2.2.1,y33.2.2.2.2.2.2.2.1,y33.2.2.2.2.2.2.2.2.1,y33.2.2.2.2.2.2.2.2.2.1,y33.2.2.2.2.2.2.2.2.2.2.1,y33.2.2.2.2.2.2.2.2.2.2.2.1,y33.2.2.2.2.2.2.2.2.2.2.2.2.1,y33.2.2.2.2.2.2.2.2.2.2.2.2.2.1,y33.2.2.2.2.2.2.2.2.2.2.2.2.2.2.1,y33.2.2.2.2.2.2.2.2.2.2.2.2.2.2.2.1,y33.2.2.2.2.2.2.2.2.2.2.2.2.2.2.2.2.1,y33.2.2.2.2.2.2.2.2.2.2.2.2.2.2.2.2.2.1,y33.2.2.2.2.2.2.2.2.2.2.2.2.2.2.2.2.2.2.1,y33.2.2.2.2.2.2.2.2.2.2.2.2.2.2.2.2.2.2.2.1,y33.2.2.2.2.2.2.2.2.2.2.2.2.2.2.2.2.2.2.2.2.1,y33.2.2.2.2.2.2.2.2.2.2.2.2.2.2.2.2.2.2.2.2.2.1,y33.2.2.2.2.2.2.2.2.2.2.2.2.2.2.2.2.2.2.2.2.2.2.1,y33.2.2.2.2.2.2.2.2.2.2.2.2.2.2.2.2.2.2.2.2.2.2.2.1,y33.2.2.2.2.2.2.2.2.2.2.2.2.2.2.2.2.2.2.2.2.2.2.2.2.1,y33.2.2.2.2.2.2.2.2.2.2.2.2.2.2.2.2.2.2.2.2.2.2.2.2.2.1,y33.2.2.2.2.2.2.2.2.2.2.2.2.2.2.2.2.2.2.2.2.2.2.2.2.2.2.1,0,0,0,())))))
def xO (n:Nat) (x:Int×Int×Int×Unit):Option (Bool) :=let a_0:=x
 br (decide (a_0.1 < 0)) (some false) (br (decide (a_0.1≥7)) (some false) (chk (inB a_0.1 7) (chk (decide (a_0.1.toNat < 7)) (br (decide (a_0.2.1≥0)) (chk (inB 0 2) (chk (decide ((0:Int).toNat < 2)) (let v1:Int:=((((((((([[0,0],[0,0],[0,0],[0,0],[0,0],[0,0],[0,0]]:List (List (Int))).set 0 ([0,0])).set 1 ((([0,0]:List (Int)).set 0 999999999).set 1 0)).set 2 ([0,0])).set 3 ((([0,0]:List (Int)).set 0 999999999).set 1 999999999)).set 4 ((([0,0]:List (Int)).set 0 999).set 1 0)).set 5 ((([0,0]:List (Int)).set 0 999999999).set 1 0)).set 6 ((([0,0]:List (Int)).set 0 999999999).set 1 0)).getD (a_0.1.toNat) (Ty.dflt (.arr 2 (.int .i64)))).getD ((0:Int).toNat) (Ty.dflt (.int .i64))
 br (decide (a_0.2.1<=v1)) (br (decide (a_0.2.2.1≥0)) (chk (inB 1 2) (chk (decide ((1:Int).toNat < 2)) (let v2:Int:=((((((((([[0,0],[0,0],[0,0],[0,0],[0,0],[0,0],[0,0]]:List (List (Int))).set 0 ([0,0])).set 1 ((([0,0]:List (Int)).set 0 999999999).set 1 0)).set 2 ([0,0])).set 3 ((([0,0]:List (Int)).set 0 999999999).set 1 999999999)).set 4 ((([0,0]:List (Int)).set 0 999).set 1 0)).set 5 ((([0,0]:List (Int)).set 0 999999999).set 1 0)).set 6 ((([0,0]:List (Int)).set 0 999999999).set 1 0)).getD (a_0.1.toNat) (Ty.dflt (.arr 2 (.int .i64)))).getD ((1:Int).toNat) (Ty.dflt (.int .i64))
 some (decide (a_0.2.2.1<=v2))))) (some false)) (some false)))) (some false)))))
def Ql (n:Nat) (x:(Int×Int×Int×Unit)×(Int×Int×Int×Unit)×Bool×Unit):Option (Bool) :=let r_0:=x
 ob (xO n r_0.1) fun y1 =>br (!y1) (some false) (ob (xO n r_0.2.1) fun y2 =>br (!y2) (some false) (br (decide (r_0.1.1 > 4)) (some false) (br (r_0.2.1.1==3) (some false) (br (r_0.1.1==0) (some (r_0.2.1.1==0)) (br (Ty.beq Fh r_0.1 (1,(0,(0,())))) (some (r_0.2.1.1==4)) (some true))))))
def mG (n:Nat) (x:Sc0):Option (Sum (Int×Sc0) (Int×Sc0)) :=ob2 (kT n (false,x)) (fun y27 =>br (!y27.2.2.2.1) (some (.inl (0,y27.2.2.2.2))) (ob (bR n (y27.2.2.2.2.1,y27.2.2.2.2.2.1,y27.2.2.2.2.2.2.1,y27.2.2.2.2.2.2.2.1,y27.2.2.2.2.2.2.2.2.1,y27.1,y27.2.1,y27.2.2.1,y27.2.2.2.2.2.2.2.2.2.2.2.2)) fun y28 =>ob (dK n ([44],y28)) fun y29 =>br y29.1 (ob (bR n (y29.2)) fun y30 =>ob2 (kT n (true,y30)) (fun y31 =>br (!y31.2.2.2.1) (ob2 (bB n (121,())) (fun y32 =>none) (fun y32 =>some (.inr (y32.1,y31.2.2.2.2.1,y31.2.2.2.2.2.1,y31.2.2.2.2.2.2.1,y31.2.2.2.2.2.2.2.1,y31.2.2.2.2.2.2.2.2.1,y31.2.2.2.2.2.2.2.2.2.1,y31.2.2.2.2.2.2.2.2.2.2.1,y31.2.2.2.2.2.2.2.2.2.2.2.1,y31.1,y31.2.1,y31.2.2.1,y31.2.2.2.2.2.2.2.2.2.2.2.2.2.2.2)))) (ob (Ql n ((y31.2.2.2.2.2.2.2.2.2.1,(y31.2.2.2.2.2.2.2.2.2.2.1,(y31.2.2.2.2.2.2.2.2.2.2.2.1,()))),((y31.1,(y31.2.1,(y31.2.2.1,()))),(y31.2.2.2.2.2.2.2.2.2.2.2.2.2.2.2.1,())))) fun y33 =>br (!y33) (ob2 (bB n (121,())) (fun y34 =>none) (fun y34 =>some (.inr (y34.1,y31.2.2.2.2.1,y31.2.2.2.2.2.1,y31.2.2.2.2.2.2.1,y31.2.2.2.2.2.2.2.1,y31.2.2.2.2.2.2.2.2.1,y31.2.2.2.2.2.2.2.2.2.1,y31.2.2.2.2.2.2.2.2.2.2.1,y31.2.2.2.2.2.2.2.2.2.2.2.1,y31.1,y31.2.1,y31.2.2.1,y31.2.2.2.2.2.2.2.2.2.2.2.2.2.2.2)))) (some (.inl (2,y31.2.2.2.2.1,y31.2.2.2.2.2.1,y31.2.2.2.2.2.2.1,y31.2.2.2.2.2.2.2.1,y31.2.2.2.2.2.2.2.2.1,y31.2.2.2.2.2.2.2.2.2.1,y31.2.2.2.2.2.2.2.2.2.2.1,y31.2.2.2.2.2.2.2.2.2.2.2.1,y31.1,y31.2.1,y31.2.2.1,y31.2.2.2.2.2.2.2.2.2.2.2.2.2.2.2))))) (fun y31 =>some (.inr (y31)))) (ob (Ql n ((y29.2.2.2.2.2.2.1,(y29.2.2.2.2.2.2.2.1,(y29.2.2.2.2.2.2.2.2.1,()))),((y29.2.2.2.2.2.2.2.2.2.1,(y29.2.2.2.2.2.2.2.2.2.2.1,(y29.2.2.2.2.2.2.2.2.2.2.2.1,()))),(y29.2.2.2.2.2.2.2.2.2.2.2.2.1,())))) fun y35 =>br (!y35) (ob2 (bB n (121,())) (fun y36 =>none) (fun y36 =>some (.inr (y36.1,y29.2)))) (some (.inl (1,y29.2)))))) (fun y27 =>some (.inr (y27)))
def cO (n:Nat) (x:Sc0):Option (Sc0) :=let s1:=x.1
 let xE:=x.2.1
 let at3:=x.2.2.1
 let pQ:=x.2.2.2.1
 let uP:=x.2.2.2.2.1
 let zP:=x.2.2.2.2.2.1
 let N7:=x.2.2.2.2.2.2.1
 let M8:=x.2.2.2.2.2.2.2.1
 let zQ:=x.2.2.2.2.2.2.2.2.1
 let N10:=x.2.2.2.2.2.2.2.2.2.1
 let M11:=x.2.2.2.2.2.2.2.2.2.2.1
 let zR:=x.2.2.2.2.2.2.2.2.2.2.2.1
 let Fp:=x.2.2.2.2.2.2.2.2.2.2.2.2.1
 let uQ:=x.2.2.2.2.2.2.2.2.2.2.2.2.2.1
 let uR:=x.2.2.2.2.2.2.2.2.2.2.2.2.2.2.1
 let N16:=x.2.2.2.2.2.2.2.2.2.2.2.2.2.2.2.1
 let Yw:=x.2.2.2.2.2.2.2.2.2.2.2.2.2.2.2.2.1
 let Ht:=x.2.2.2.2.2.2.2.2.2.2.2.2.2.2.2.2.2.1
 let vR:=x.2.2.2.2.2.2.2.2.2.2.2.2.2.2.2.2.2.2.1
 let Hu:=x.2.2.2.2.2.2.2.2.2.2.2.2.2.2.2.2.2.2.2.1
 let vS:=x.2.2.2.2.2.2.2.2.2.2.2.2.2.2.2.2.2.2.2.2.1
 let qR:=x.2.2.2.2.2.2.2.2.2.2.2.2.2.2.2.2.2.2.2.2.2.1
 let iE:=x.2.2.2.2.2.2.2.2.2.2.2.2.2.2.2.2.2.2.2.2.2.2.1
 chk (qBg ((iE.length+([(((zP,(N7,(M8,()))),((zQ,(N10,(M11,()))),(zR,()))),(Fp,(uQ,(uR,(N16,(Yw,(Ht,(vR,(Hu,(vS,()))))))))))]:List (Sc1)).length) * 152) room) (let r27:List (Sc1):=iE++[(((zP,(N7,(M8,()))),((zQ,(N10,(M11,()))),(zR,()))),(Fp,(uQ,(uR,(N16,(Yw,(Ht,(vR,(Hu,(vS,()))))))))))]
 some (s1,xE,at3,pQ,uP,zP,N7,M8,zQ,N10,M11,zR,Fp,uQ,uR,N16,Yw,Ht,vR,Hu,vS,qR,r27,x.2.2.2.2.2.2.2.2.2.2.2.2.2.2.2.2.2.2.2.2.2.2.2))
def nC (n:Nat) (x:Sc0):Option (Sc0) :=let s1:=x.1
 let xE:=x.2.1
 let at3:=x.2.2.1
 let pQ:=x.2.2.2.1
 let uP:=x.2.2.2.2.1
 let zP:=x.2.2.2.2.2.1
 let N7:=x.2.2.2.2.2.2.1
 let M8:=x.2.2.2.2.2.2.2.1
 let zQ:=x.2.2.2.2.2.2.2.2.1
 let N10:=x.2.2.2.2.2.2.2.2.2.1
 let M11:=x.2.2.2.2.2.2.2.2.2.2.1
 let zR:=x.2.2.2.2.2.2.2.2.2.2.2.1
 let Fp:=x.2.2.2.2.2.2.2.2.2.2.2.2.1
 let uQ:=x.2.2.2.2.2.2.2.2.2.2.2.2.2.1
 let uR:=x.2.2.2.2.2.2.2.2.2.2.2.2.2.2.1
 let N16:=x.2.2.2.2.2.2.2.2.2.2.2.2.2.2.2.1
 let Yw:=x.2.2.2.2.2.2.2.2.2.2.2.2.2.2.2.2.1
 let Ht:=x.2.2.2.2.2.2.2.2.2.2.2.2.2.2.2.2.2.1
 let vR:=x.2.2.2.2.2.2.2.2.2.2.2.2.2.2.2.2.2.2.1
 let Hu:=x.2.2.2.2.2.2.2.2.2.2.2.2.2.2.2.2.2.2.2.1
 let vS:=x.2.2.2.2.2.2.2.2.2.2.2.2.2.2.2.2.2.2.2.2.1
 let qR:=x.2.2.2.2.2.2.2.2.2.2.2.2.2.2.2.2.2.2.2.2.2.1
 let iE:=x.2.2.2.2.2.2.2.2.2.2.2.2.2.2.2.2.2.2.2.2.2.2.1
 let wS:=x.2.2.2.2.2.2.2.2.2.2.2.2.2.2.2.2.2.2.2.2.2.2.2.1
 let Km:=x.2.2.2.2.2.2.2.2.2.2.2.2.2.2.2.2.2.2.2.2.2.2.2.2.1
 let zHh:=x.2.2.2.2.2.2.2.2.2.2.2.2.2.2.2.2.2.2.2.2.2.2.2.2.2.1
 let v27:Int:=((iE.length:Nat):Int)
 chk (qBg ((wS.length+([(v27,(pQ,([],())))]:List (Sc5)).length) * 32) room) (let r28:List (Sc5):=wS++[(v27,(pQ,([],())))]
 ob (cO n (s1,xE,at3,pQ,uP,zP,N7,M8,zQ,N10,M11,zR,Fp,uQ,uR,N16,Yw,Ht,vR,Hu,vS,qR,iE,r28,Km,zHh,())) fun y29 =>some (y29))
def qY (n:Nat) (x:Sc0):Option (Sum (Sc0) (Int×Sc0)) :=let s1:=x.1
 let xE:=x.2.1
 let at3:=x.2.2.1
 let pQ:=x.2.2.2.1
 let uP:=x.2.2.2.2.1
 let zP:=x.2.2.2.2.2.1
 let N7:=x.2.2.2.2.2.2.1
 let M8:=x.2.2.2.2.2.2.2.1
 let zQ:=x.2.2.2.2.2.2.2.2.1
 let N10:=x.2.2.2.2.2.2.2.2.2.1
 let M11:=x.2.2.2.2.2.2.2.2.2.2.1
 let zR:=x.2.2.2.2.2.2.2.2.2.2.2.1
 let Fp:=x.2.2.2.2.2.2.2.2.2.2.2.2.1
 let uQ:=x.2.2.2.2.2.2.2.2.2.2.2.2.2.1
 let uR:=x.2.2.2.2.2.2.2.2.2.2.2.2.2.2.1
 let N16:=x.2.2.2.2.2.2.2.2.2.2.2.2.2.2.2.1
 let Ht:=x.2.2.2.2.2.2.2.2.2.2.2.2.2.2.2.2.2.1
 let vR:=x.2.2.2.2.2.2.2.2.2.2.2.2.2.2.2.2.2.2.1
 let Hu:=x.2.2.2.2.2.2.2.2.2.2.2.2.2.2.2.2.2.2.2.1
 let vS:=x.2.2.2.2.2.2.2.2.2.2.2.2.2.2.2.2.2.2.2.2.1
 let qR:=x.2.2.2.2.2.2.2.2.2.2.2.2.2.2.2.2.2.2.2.2.2.1
 let iE:=x.2.2.2.2.2.2.2.2.2.2.2.2.2.2.2.2.2.2.2.2.2.2.1
 let wS:=x.2.2.2.2.2.2.2.2.2.2.2.2.2.2.2.2.2.2.2.2.2.2.2.1
 let Km:=x.2.2.2.2.2.2.2.2.2.2.2.2.2.2.2.2.2.2.2.2.2.2.2.2.1
 let zHh:=x.2.2.2.2.2.2.2.2.2.2.2.2.2.2.2.2.2.2.2.2.2.2.2.2.2.1
 let v27:Int:=((wS.length:Nat):Int)
 let v28:Int:=qEq .i64 (v27 - 1)
 br (decide (v28 < 0)) (ob2 (bB n (123,())) (fun y29 =>none) (fun y29 =>some (.inr (y29.1,x)))) (chk ((inB v28 (wS.length)&&decide (0+(wS.length)<=wS.length))) (chk (decide (0+v28.toNat<wS.length)) (let v30:Int:=(wS.getD (0+v28.toNat) (Ty.dflt gG)).1
 let v31:Int:=((iE.length:Nat):Int)
 chk ((inB v30 (iE.length)&&decide (0+(iE.length)<=iE.length))) (chk (decide (0+v30.toNat<iE.length)) (let r32:List (Sc1):=iE.set (0+v30.toNat) ((((iE.getD (0+v30.toNat) (Ty.dflt aB)).1.1.1,((iE.getD (0+v30.toNat) (Ty.dflt aB)).1.1.2.1,((iE.getD (0+v30.toNat) (Ty.dflt aB)).1.1.2.2.1,()))),(((iE.getD (0+v30.toNat) (Ty.dflt aB)).1.2.1.1,((iE.getD (0+v30.toNat) (Ty.dflt aB)).1.2.1.2.1,((iE.getD (0+v30.toNat) (Ty.dflt aB)).1.2.1.2.2.1,()))),((iE.getD (0+v30.toNat) (Ty.dflt aB)).1.2.2.1,()))),((iE.getD (0+v30.toNat) (Ty.dflt aB)).2.1,((iE.getD (0+v30.toNat) (Ty.dflt aB)).2.2.1,((iE.getD (0+v30.toNat) (Ty.dflt aB)).2.2.2.1,((iE.getD (0+v30.toNat) (Ty.dflt aB)).2.2.2.2.1,(v31,((iE.getD (0+v30.toNat) (Ty.dflt aB)).2.2.2.2.2.2.1,((iE.getD (0+v30.toNat) (Ty.dflt aB)).2.2.2.2.2.2.2.1,((iE.getD (0+v30.toNat) (Ty.dflt aB)).2.2.2.2.2.2.2.2.1,((iE.getD (0+v30.toNat) (Ty.dflt aB)).2.2.2.2.2.2.2.2.2.1,()))))))))))
 chk ((decide (0<=v28)&&decide (v28<=(wS.length:Int)))) (chk (qBg (v28.toNat) wS.length) (ob (cO n (s1,xE,at3,pQ,uP,zP,N7,M8,zQ,N10,M11,zR,Fp,uQ,uR,N16,v30,Ht,vR,Hu,vS,qR,r32,wS.take (v28.toNat),Km,zHh,())) fun y33 =>some (.inl (y33)))))))))
def sS (n:Nat) (x:Sc0):Option (Sum (List UInt8×Sc0) (Int×Sc0)) :=ob (eB n ([59,125],x)) fun y27 =>ob (strings_ContainsAny n (y27.1,[32,9])) fun y28 =>br y28 (ob2 (bB n (122,())) (fun y29 =>none) (fun y29 =>some (.inr (y29.1,y27.2)))) (some (.inl (y27)))
def eO (n:Nat) (x:Sc0):Option (Sum (Sc0) (Int×Sc0)) :=ob (bR n (x)) fun y27 =>br (decide (y27.2.2.1<(y27.1.length:Int))) (ob (dG n ([10,59,35,125],y27)) fun y28 =>br (!y28.1) (ob2 (bB n (120,())) (fun y29 =>none) (fun y29 =>some (.inr (y29.1,y28.2)))) (some (.inl (y28.2)))) (some (.inl (y27)))
def qZ (n:Nat) (x:Sc0):Option (Sum (Sc0) (Int×Sc0)) :=ob2 (sS n (x)) (fun y27 =>let v28:Int:=jP .str 0 y27.2.2.2.2.2.2.2.2.2.2.2.2.2.2.2.2.2.2.2.2.2.2.2.2.2.2.1 y27.1
 br (zXu .str y27.2.2.2.2.2.2.2.2.2.2.2.2.2.2.2.2.2.2.2.2.2.2.2.2.2.2.1 y27.1) (ob2 (bB n (122,())) (fun y29 =>none) (fun y29 =>some (.inr (y29.1,y27.2)))) (br (y27.1==[]) (ob2 (bB n (122,())) (fun y30 =>none) (fun y30 =>some (.inr (y30.1,y27.2)))) (let v31:Int:=((y27.2.2.2.2.2.2.2.2.2.2.2.2.2.2.2.2.2.2.2.2.2.2.2.1.length:Nat):Int)
 ob2 (eO n (y27.2.1,y27.2.2.1,y27.2.2.2.1,y27.2.2.2.2.1,y27.2.2.2.2.2.1,y27.2.2.2.2.2.2.1,y27.2.2.2.2.2.2.2.1,y27.2.2.2.2.2.2.2.2.1,y27.2.2.2.2.2.2.2.2.2.1,y27.2.2.2.2.2.2.2.2.2.2.1,y27.2.2.2.2.2.2.2.2.2.2.2.1,y27.2.2.2.2.2.2.2.2.2.2.2.2.1,y27.2.2.2.2.2.2.2.2.2.2.2.2.2.1,y27.2.2.2.2.2.2.2.2.2.2.2.2.2.2.1,y27.2.2.2.2.2.2.2.2.2.2.2.2.2.2.2.1,y27.2.2.2.2.2.2.2.2.2.2.2.2.2.2.2.2.1,y27.2.2.2.2.2.2.2.2.2.2.2.2.2.2.2.2.2.1,y27.2.2.2.2.2.2.2.2.2.2.2.2.2.2.2.2.2.2.1,y27.2.2.2.2.2.2.2.2.2.2.2.2.2.2.2.2.2.2.2.1,y27.2.2.2.2.2.2.2.2.2.2.2.2.2.2.2.2.2.2.2.2.1,y27.2.2.2.2.2.2.2.2.2.2.2.2.2.2.2.2.2.2.2.2.2.1,y27.2.2.2.2.2.2.2.2.2.2.2.2.2.2.2.2.2.2.2.2.2.2.1,y27.2.2.2.2.2.2.2.2.2.2.2.2.2.2.2.2.2.2.2.2.2.2.2.1,y27.2.2.2.2.2.2.2.2.2.2.2.2.2.2.2.2.2.2.2.2.2.2.2.2.1,y27.2.2.2.2.2.2.2.2.2.2.2.2.2.2.2.2.2.2.2.2.2.2.2.2.2.1,uV .str y27.2.2.2.2.2.2.2.2.2.2.2.2.2.2.2.2.2.2.2.2.2.2.2.2.2.2.1 y27.1 v31,())) (fun y32 =>some (.inl (y32))) (fun y32 =>some (.inr (y32)))))) (fun y27 =>some (.inr (y27)))
def qM (n:Nat) (x:List UInt8×List (List UInt8×Int×Unit)×Unit):Option (List UInt8×List (List UInt8×Int×Unit)×Unit) :=let b1:=x.1
 let Np:=x.2.1
 br (!(b1==[])) (chk (qBg ((Np.length+([(b1,((-1),()))]:List (List UInt8×Int×Unit)).length) * 24) room) (let r3:List (List UInt8×Int×Unit):=Np++[(b1,((-1),()))]
 some ([],r3,()))) (some ([],Np,()))
def Vr (n:Nat) (g0:List UInt8×Int×List UInt8×List (List UInt8×Int×Unit)×Unit->Option (List (List UInt8×Int×Unit)×Int×Int)) (x1:List UInt8×Int×List UInt8×List (List UInt8×Int×Unit)×Unit):Option (List (List UInt8×Int×Unit)×Int×Int) :=let s_2:=x1.1
 let i_3:=x1.2.1
 let b4:=x1.2.2.1
 let Dj:=x1.2.2.2.1
 br (decide (i_3<(s_2.length:Int))) (chk (inB i_3 s_2.length) (let v6:Int:=((aM 0 s_2 i_3).toNat:Int)
 br (v6==38) (ob (qM n (b4,Dj,())) fun y7 =>chk (qBg ((y7.2.1.length+([([],(0,()))]:List (List UInt8×Int×Unit)).length) * 24) room) (let r8:List (List UInt8×Int×Unit):=y7.2.1++[([],(0,()))]
 let v9:Int:=qEq .i64 (i_3+1)
 g0 (s_2,v9,y7.1,r8,()))) (br (v6==10) (some ([],i_3,90)) (br (v6 != 92) (chk (decide (b4.length+(bV [v6]).length<=qV)) (let v10:Int:=qEq .i64 (i_3+1)
 g0 (s_2,v10,b4++(bV [v6]),Dj,()))) (let v11:Int:=qEq .i64 (i_3+1)
 br (v11==(s_2.length:Int)) (let v12:Int:=qEq .i64 (v11 - 1)
 some ([],v12,90)) (chk (inB v11 s_2.length) (let v13:Int:=((aM 0 s_2 v11).toNat:Int)
 br (decide (v13≥49)) (br (decide (v13<=57)) (ob (qM n (b4,Dj,())) fun y14 =>let v15:Int:=qEq .u8 (v13 - 48)
 chk (qBg ((y14.2.1.length+([([],(qEq .i64 v15,()))]:List (List UInt8×Int×Unit)).length) * 24) room) (let r16:List (List UInt8×Int×Unit):=y14.2.1++[([],(qEq .i64 v15,()))]
 let v17:Int:=qEq .i64 (v11+1)
 g0 (s_2,v17,y14.1,r16,()))) (br (v13==110) (chk (decide (b4.length+(bV [10]).length<=qV)) (let v18:Int:=qEq .i64 (v11+1)
 g0 (s_2,v18,b4++(bV [10]),Dj,()))) (ob (strings_IndexByte n ([10,92,38,47],v13)) fun y19 =>br (decide (y19 < 0)) (let v20:Int:=qEq .i64 (v11 - 1)
 some ([],v20,90)) (chk (decide (b4.length+(bV [v13]).length<=qV)) (let v21:Int:=qEq .i64 (v11+1)
 g0 (s_2,v21,b4++(bV [v13]),Dj,())))))) (br (v13==110) (chk (decide (b4.length+(bV [10]).length<=qV)) (let v22:Int:=qEq .i64 (v11+1)
 g0 (s_2,v22,b4++(bV [10]),Dj,()))) (ob (strings_IndexByte n ([10,92,38,47],v13)) fun y23 =>br (decide (y23 < 0)) (let v24:Int:=qEq .i64 (v11 - 1)
 some ([],v24,90)) (chk (decide (b4.length+(bV [v13]).length<=qV)) (let v25:Int:=qEq .i64 (v11+1)
 g0 (s_2,v25,b4++(bV [v13]),Dj,())))))))))))) (ob (qM n (b4,Dj,())) fun y26 =>some (y26.2.1,0,0))
def Jq (n:Nat) (x:List UInt8):Option (List (List UInt8×Int×Unit)×Int×Int) :=let s_0:=x
 fix (Vr n) n (s_0,0,[],[],())
def Yx(n:Nat)(g0:Int × List (List UInt8 × Int × Unit) × Int × Int × Unit->Option (Int))(x1:Int × List (List UInt8 × Int × Unit) × Int × Int × Unit):Option (Int):=
 let n_2:Int:=x1.1
 let zYi:List (List UInt8 × Int × Unit):=x1.2.1
 let Bc:Int:=x1.2.2.1
 let zSe:Int:=x1.2.2.2.1
 br (decide (zSe<Bc)) (
  chk (inB zSe zYi.length) (
   let v6:List UInt8 × Int × Unit:=aM (Ty.dflt iL) zYi zSe
   let v7:Int:=if v6.2.1>n_2 then v6.2.1 else n_2
   let v8:Int:=qEq .i64 (zSe+1)
   g0 (v7,zYi,Bc,v8,()))) (
  some n_2)
def Ns (n:Nat) (x:List (List UInt8×Int×Unit)):Option (Int) :=let l_0:=x
 fix (Yx n) n (0,l_0,(l_0.length:Int),0,())
def oO (n:Nat) (g0:List UInt8×Bool×Int×Int×Bool×Int×Int×Int×Int×Int×Int×Bool×Int×List UInt8×List UInt8×Int×Int×Int×List (List UInt8×Int×Unit)×Bool×Bool×List (List (NdT)×Bool×Unit)×List (Sc1)×List (Sc5)×List (Sc5)×List (List UInt8×Int)×List (List UInt8×Int)×Unit->Option (Sum (Bool×Sc0) (Int×Sc0))) (x92:List UInt8×Sc3):Option (Sum (Bool×Sc0) (Int×Sc0)) :=let zOi:=x92.1
 let s94:=x92.2.1
 let zVd:=x92.2.2.1
 let yFu:=x92.2.2.2.1
 let zEu:=x92.2.2.2.2.1
 let zEv:=x92.2.2.2.2.2.1
 let zLk:=x92.2.2.2.2.2.2.1
 let yFv:=x92.2.2.2.2.2.2.2.1
 let yFw:=x92.2.2.2.2.2.2.2.2.1
 let zEw:=x92.2.2.2.2.2.2.2.2.2.1
 let yFx:=x92.2.2.2.2.2.2.2.2.2.2.1
 let yFy:=x92.2.2.2.2.2.2.2.2.2.2.2.1
 let zLl:=x92.2.2.2.2.2.2.2.2.2.2.2.2.1
 let zVe:=x92.2.2.2.2.2.2.2.2.2.2.2.2.2.1
 let zEx:=x92.2.2.2.2.2.2.2.2.2.2.2.2.2.2.1
 let zEy:=x92.2.2.2.2.2.2.2.2.2.2.2.2.2.2.2.1
 let yFz:=x92.2.2.2.2.2.2.2.2.2.2.2.2.2.2.2.2.1
 let zVf:=x92.2.2.2.2.2.2.2.2.2.2.2.2.2.2.2.2.2.1
 let zLm:=x92.2.2.2.2.2.2.2.2.2.2.2.2.2.2.2.2.2.2.1
 let Yy:=x92.2.2.2.2.2.2.2.2.2.2.2.2.2.2.2.2.2.2.2.1
 let zVg:=x92.2.2.2.2.2.2.2.2.2.2.2.2.2.2.2.2.2.2.2.2.1
 let zHi:=x92.2.2.2.2.2.2.2.2.2.2.2.2.2.2.2.2.2.2.2.2.2.1
 let zLn:=x92.2.2.2.2.2.2.2.2.2.2.2.2.2.2.2.2.2.2.2.2.2.2.1
 let Tf:=x92.2.2.2.2.2.2.2.2.2.2.2.2.2.2.2.2.2.2.2.2.2.2.2.1
 let Nt:=x92.2.2.2.2.2.2.2.2.2.2.2.2.2.2.2.2.2.2.2.2.2.2.2.2.1
 let Tg:=x92.2.2.2.2.2.2.2.2.2.2.2.2.2.2.2.2.2.2.2.2.2.2.2.2.2.1
 let zLo:=x92.2.2.2.2.2.2.2.2.2.2.2.2.2.2.2.2.2.2.2.2.2.2.2.2.2.2.1
 let Nu:=x92.2.2.2.2.2.2.2.2.2.2.2.2.2.2.2.2.2.2.2.2.2.2.2.2.2.2.2.1
 br (zOi==[103]) (g0 (s94,zVd,yFu,zEu,zEv,zLk,yFv,yFw,zEw,yFx,yFy,zLl,zVe,zEx,zEy,yFz,zVf,zLm,Yy,true,zHi,zLn,Tf,Nt,Tg,zLo,Nu,())) (br (zOi==[112]) (g0 (s94,zVd,yFu,zEu,zEv,zLk,yFv,yFw,zEw,yFx,yFy,zLl,zVe,zEx,zEy,yFz,zVf,zLm,Yy,zVg,true,zLn,Tf,Nt,Tg,zLo,Nu,())) (br (zOi==[73]) (ob (iD n (s94,zVd,yFu,zEu,zEv,zLk,yFv,yFw,zEw,yFx,yFy,zLl,zVe,zEx,zEy,yFz,zVf,zLm,Yy,zVg,zHi,zLn,Tf,Nt,Tg,zLo,())) fun qO =>g0 (qO.1,qO.2.1,qO.2.2.1,qO.2.2.2.1,qO.2.2.2.2.1,qO.2.2.2.2.2.1,qO.2.2.2.2.2.2.1,qO.2.2.2.2.2.2.2.1,qO.2.2.2.2.2.2.2.2.1,qO.2.2.2.2.2.2.2.2.2.1,qO.2.2.2.2.2.2.2.2.2.2.1,qO.2.2.2.2.2.2.2.2.2.2.2.1,qO.2.2.2.2.2.2.2.2.2.2.2.2.1,qO.2.2.2.2.2.2.2.2.2.2.2.2.2.1,qO.2.2.2.2.2.2.2.2.2.2.2.2.2.2.1,qO.2.2.2.2.2.2.2.2.2.2.2.2.2.2.2.1,qO.2.2.2.2.2.2.2.2.2.2.2.2.2.2.2.2.1,qO.2.2.2.2.2.2.2.2.2.2.2.2.2.2.2.2.2.1,qO.2.2.2.2.2.2.2.2.2.2.2.2.2.2.2.2.2.2.1,qO.2.2.2.2.2.2.2.2.2.2.2.2.2.2.2.2.2.2.2.1,qO.2.2.2.2.2.2.2.2.2.2.2.2.2.2.2.2.2.2.2.2.1,qO.2.2.2.2.2.2.2.2.2.2.2.2.2.2.2.2.2.2.2.2.2.1,qO.2.2.2.2.2.2.2.2.2.2.2.2.2.2.2.2.2.2.2.2.2.2.1,qO.2.2.2.2.2.2.2.2.2.2.2.2.2.2.2.2.2.2.2.2.2.2.2.1,qO.2.2.2.2.2.2.2.2.2.2.2.2.2.2.2.2.2.2.2.2.2.2.2.2.1,qO.2.2.2.2.2.2.2.2.2.2.2.2.2.2.2.2.2.2.2.2.2.2.2.2.2.1,Nu,())) (br (zOi==[119]) (ob (eB n ([],s94,zVd,yFu,zEu,zEv,zLk,yFv,yFw,zEw,yFx,yFy,zLl,zVe,zEx,zEy,yFz,zVf,zLm,Yy,zVg,zHi,zLn,Tf,Nt,Tg,zLo,())) fun fE =>br (fE.1==[]) (ob2 (bB n (124,())) (fun xFs =>none) (fun xFs =>some (.inr (xFs.1,fE.2.1,fE.2.2.1,fE.2.2.2.1,fE.2.2.2.2.1,fE.2.2.2.2.2.1,fE.2.2.2.2.2.2.1,fE.2.2.2.2.2.2.2.1,fE.2.2.2.2.2.2.2.2.1,fE.2.2.2.2.2.2.2.2.2.1,fE.2.2.2.2.2.2.2.2.2.2.1,fE.2.2.2.2.2.2.2.2.2.2.2.1,fE.2.2.2.2.2.2.2.2.2.2.2.2.1,fE.2.2.2.2.2.2.2.2.2.2.2.2.2.1,fE.1,fE.2.2.2.2.2.2.2.2.2.2.2.2.2.2.2.1,fE.2.2.2.2.2.2.2.2.2.2.2.2.2.2.2.2.1,fE.2.2.2.2.2.2.2.2.2.2.2.2.2.2.2.2.2.1,fE.2.2.2.2.2.2.2.2.2.2.2.2.2.2.2.2.2.2.1,fE.2.2.2.2.2.2.2.2.2.2.2.2.2.2.2.2.2.2.2.1,fE.2.2.2.2.2.2.2.2.2.2.2.2.2.2.2.2.2.2.2.2.1,fE.2.2.2.2.2.2.2.2.2.2.2.2.2.2.2.2.2.2.2.2.2.1,fE.2.2.2.2.2.2.2.2.2.2.2.2.2.2.2.2.2.2.2.2.2.2.1,fE.2.2.2.2.2.2.2.2.2.2.2.2.2.2.2.2.2.2.2.2.2.2.2.1,fE.2.2.2.2.2.2.2.2.2.2.2.2.2.2.2.2.2.2.2.2.2.2.2.2.1,fE.2.2.2.2.2.2.2.2.2.2.2.2.2.2.2.2.2.2.2.2.2.2.2.2.2.1,fE.2.2.2.2.2.2.2.2.2.2.2.2.2.2.2.2.2.2.2.2.2.2.2.2.2.2.1,())))) (some (.inl (true,fE.2.1,fE.2.2.1,fE.2.2.2.1,fE.2.2.2.2.1,fE.2.2.2.2.2.1,fE.2.2.2.2.2.2.1,fE.2.2.2.2.2.2.2.1,fE.2.2.2.2.2.2.2.2.1,fE.2.2.2.2.2.2.2.2.2.1,fE.2.2.2.2.2.2.2.2.2.2.1,fE.2.2.2.2.2.2.2.2.2.2.2.1,fE.2.2.2.2.2.2.2.2.2.2.2.2.1,fE.2.2.2.2.2.2.2.2.2.2.2.2.2.1,fE.1,fE.2.2.2.2.2.2.2.2.2.2.2.2.2.2.2.1,fE.2.2.2.2.2.2.2.2.2.2.2.2.2.2.2.2.1,fE.2.2.2.2.2.2.2.2.2.2.2.2.2.2.2.2.2.1,fE.2.2.2.2.2.2.2.2.2.2.2.2.2.2.2.2.2.2.1,fE.2.2.2.2.2.2.2.2.2.2.2.2.2.2.2.2.2.2.2.1,fE.2.2.2.2.2.2.2.2.2.2.2.2.2.2.2.2.2.2.2.2.1,fE.2.2.2.2.2.2.2.2.2.2.2.2.2.2.2.2.2.2.2.2.2.1,fE.2.2.2.2.2.2.2.2.2.2.2.2.2.2.2.2.2.2.2.2.2.2.1,fE.2.2.2.2.2.2.2.2.2.2.2.2.2.2.2.2.2.2.2.2.2.2.2.1,fE.2.2.2.2.2.2.2.2.2.2.2.2.2.2.2.2.2.2.2.2.2.2.2.2.1,fE.2.2.2.2.2.2.2.2.2.2.2.2.2.2.2.2.2.2.2.2.2.2.2.2.2.1,fE.2.2.2.2.2.2.2.2.2.2.2.2.2.2.2.2.2.2.2.2.2.2.2.2.2.2.1,())))) (g0 (s94,zVd,yFu,zEu,zEv,zLk,yFv,yFw,zEw,yFx,yFy,zLl,zVe,zEx,zEy,yFz,zVf,zLm,Yy,zVg,zHi,zLn,Tf,Nt,Tg,zLo,Nu,())))))
def fM (n:Nat) (g0:List UInt8×Bool×Int×Int×Bool×Int×Int×Int×Int×Int×Int×Bool×Int×List UInt8×List UInt8×Int×Int×Int×List (List UInt8×Int×Unit)×Bool×Bool×List (List (NdT)×Bool×Unit)×List (Sc1)×List (Sc5)×List (Sc5)×List (List UInt8×Int)×List (List UInt8×Int)×Unit->Option (Sum (Bool×Sc0) (Int×Sc0))) (x58:List UInt8×Sc3):Option (Sum (Bool×Sc0) (Int×Sc0)) :=let zEz:=x58.1
 let s60:=x58.2.1
 let zVh:=x58.2.2.1
 let yGa:=x58.2.2.2.1
 let zFa:=x58.2.2.2.2.1
 let zFb:=x58.2.2.2.2.2.1
 let zLp:=x58.2.2.2.2.2.2.1
 let N66:=x58.2.2.2.2.2.2.2.1
 let M67:=x58.2.2.2.2.2.2.2.2.1
 let zLq:=x58.2.2.2.2.2.2.2.2.2.1
 let N69:=x58.2.2.2.2.2.2.2.2.2.2.1
 let M70:=x58.2.2.2.2.2.2.2.2.2.2.2.1
 let zVi:=x58.2.2.2.2.2.2.2.2.2.2.2.2.1
 let yGb:=x58.2.2.2.2.2.2.2.2.2.2.2.2.2.1
 let yGc:=x58.2.2.2.2.2.2.2.2.2.2.2.2.2.2.1
 let yGd:=x58.2.2.2.2.2.2.2.2.2.2.2.2.2.2.2.1
 let N75:=x58.2.2.2.2.2.2.2.2.2.2.2.2.2.2.2.2.1
 let yXv:=x58.2.2.2.2.2.2.2.2.2.2.2.2.2.2.2.2.2.1
 let yPr:=x58.2.2.2.2.2.2.2.2.2.2.2.2.2.2.2.2.2.2.1
 let zYp:=x58.2.2.2.2.2.2.2.2.2.2.2.2.2.2.2.2.2.2.2.1
 let yPs:=x58.2.2.2.2.2.2.2.2.2.2.2.2.2.2.2.2.2.2.2.2.1
 let zYq:=x58.2.2.2.2.2.2.2.2.2.2.2.2.2.2.2.2.2.2.2.2.2.1
 let yPt:=x58.2.2.2.2.2.2.2.2.2.2.2.2.2.2.2.2.2.2.2.2.2.2.1
 let yPu:=x58.2.2.2.2.2.2.2.2.2.2.2.2.2.2.2.2.2.2.2.2.2.2.2.1
 let yPv:=x58.2.2.2.2.2.2.2.2.2.2.2.2.2.2.2.2.2.2.2.2.2.2.2.2.1
 let yPw:=x58.2.2.2.2.2.2.2.2.2.2.2.2.2.2.2.2.2.2.2.2.2.2.2.2.2.1
 let yPx:=x58.2.2.2.2.2.2.2.2.2.2.2.2.2.2.2.2.2.2.2.2.2.2.2.2.2.2.1
 let yPy:=x58.2.2.2.2.2.2.2.2.2.2.2.2.2.2.2.2.2.2.2.2.2.2.2.2.2.2.2.1
 let v87:Int:=jP .str 0 yPy zEz
 let v88:Int:=qEq .i64 (v87+1)
 let v89:Int:=jP .str 0 (uV .str yPy zEz v88) zEz
 br (decide (v89 > 1)) (ob2 (bB n (124,())) (fun y90 =>none) (fun y90 =>some (.inr (y90.1,s60,zVh,yGa,zFa,zFb,zLp,N66,M67,zLq,N69,M70,zVi,yGb,yGc,yGd,N75,yXv,yPr,zYp,yPs,zYq,yPt,yPu,yPv,yPw,yPx,())))) (br (N75==0) (ob2 (bB n (124,())) (fun y91 =>none) (fun y91 =>some (.inr (y91.1,s60,zVh,yGa,zFa,zFb,zLp,N66,M67,zLq,N69,M70,zVi,yGb,yGc,yGd,N75,yXv,yPr,zYp,yPs,zYq,yPt,yPu,yPv,yPw,yPx,())))) (jn (oO n g0) (zEz,s60,zVh,yGa,zFa,zFb,zLp,N66,M67,zLq,N69,M70,zVi,yGb,yGc,yGd,N75,yXv,yPr,zYp,yPs,zYq,yPt,yPu,yPv,yPw,yPx,uV .str yPy zEz v88,())))
def Eh (n:Nat) (g0:List UInt8×Bool×Int×Int×Bool×Int×Int×Int×Int×Int×Int×Bool×Int×List UInt8×List UInt8×Int×Int×Int×List (List UInt8×Int×Unit)×Bool×Bool×List (List (NdT)×Bool×Unit)×List (Sc1)×List (Sc5)×List (Sc5)×List (List UInt8×Int)×List (List UInt8×Int)×Unit->Option (Sum (Bool×Sc0) (Int×Sc0))) (x27:Sc3):Option (Sum (Bool×Sc0) (Int×Sc0)) :=let s28:=x27.1
 let xIz:=x27.2.1
 let yPg:=x27.2.2.1
 let xCv:=x27.2.2.2.1
 let xCw:=x27.2.2.2.2.1
 let xFt:=x27.2.2.2.2.2.1
 let N34:=x27.2.2.2.2.2.2.1
 let M35:=x27.2.2.2.2.2.2.2.1
 let xFu:=x27.2.2.2.2.2.2.2.2.1
 let N37:=x27.2.2.2.2.2.2.2.2.2.1
 let M38:=x27.2.2.2.2.2.2.2.2.2.2.1
 let xJa:=x27.2.2.2.2.2.2.2.2.2.2.2.1
 let xLa:=x27.2.2.2.2.2.2.2.2.2.2.2.2.1
 let xFv:=x27.2.2.2.2.2.2.2.2.2.2.2.2.2.1
 let xFw:=x27.2.2.2.2.2.2.2.2.2.2.2.2.2.2.1
 let N43:=x27.2.2.2.2.2.2.2.2.2.2.2.2.2.2.2.1
 let xLb:=x27.2.2.2.2.2.2.2.2.2.2.2.2.2.2.2.2.1
 let xJb:=x27.2.2.2.2.2.2.2.2.2.2.2.2.2.2.2.2.2.1
 let xCx:=x27.2.2.2.2.2.2.2.2.2.2.2.2.2.2.2.2.2.2.1
 let xJc:=x27.2.2.2.2.2.2.2.2.2.2.2.2.2.2.2.2.2.2.2.1
 let xCy:=x27.2.2.2.2.2.2.2.2.2.2.2.2.2.2.2.2.2.2.2.2.1
 let xJd:=x27.2.2.2.2.2.2.2.2.2.2.2.2.2.2.2.2.2.2.2.2.2.1
 let xJe:=x27.2.2.2.2.2.2.2.2.2.2.2.2.2.2.2.2.2.2.2.2.2.2.1
 let xJf:=x27.2.2.2.2.2.2.2.2.2.2.2.2.2.2.2.2.2.2.2.2.2.2.2.1
 let zCc:=x27.2.2.2.2.2.2.2.2.2.2.2.2.2.2.2.2.2.2.2.2.2.2.2.2.1
 let xJg:=x27.2.2.2.2.2.2.2.2.2.2.2.2.2.2.2.2.2.2.2.2.2.2.2.2.2.1
 let yDk:=x27.2.2.2.2.2.2.2.2.2.2.2.2.2.2.2.2.2.2.2.2.2.2.2.2.2.2.1
 ob (dG n ([48,49,50,51,52,53,54,55,56,57],s28,xIz,yPg,xCv,xCw,xFt,N34,M35,xFu,N37,M38,xJa,xLa,xFv,xFw,N43,xLb,xJb,xCx,xJc,xCy,xJd,xJe,xJf,zCc,xJg,())) fun y55 =>br y55.1 (let v56:Int:=jP .str 0 yDk [110,117,109,98,101,114]
 br (v56==0) (ob2 (dY n (124,y55.2.1,y55.2.2.1,y55.2.2.2.1,y55.2.2.2.2.1,y55.2.2.2.2.2.1,y55.2.2.2.2.2.2.1,y55.2.2.2.2.2.2.2.1,y55.2.2.2.2.2.2.2.2.1,y55.2.2.2.2.2.2.2.2.2.1,y55.2.2.2.2.2.2.2.2.2.2.1,y55.2.2.2.2.2.2.2.2.2.2.2.1,y55.2.2.2.2.2.2.2.2.2.2.2.2.1,y55.2.2.2.2.2.2.2.2.2.2.2.2.2.1,y55.2.2.2.2.2.2.2.2.2.2.2.2.2.2.1,y55.2.2.2.2.2.2.2.2.2.2.2.2.2.2.2.1,y55.2.2.2.2.2.2.2.2.2.2.2.2.2.2.2.2.1,y55.2.2.2.2.2.2.2.2.2.2.2.2.2.2.2.2.2.1,y55.2.2.2.2.2.2.2.2.2.2.2.2.2.2.2.2.2.2.1,y55.2.2.2.2.2.2.2.2.2.2.2.2.2.2.2.2.2.2.2.1,y55.2.2.2.2.2.2.2.2.2.2.2.2.2.2.2.2.2.2.2.2.1,y55.2.2.2.2.2.2.2.2.2.2.2.2.2.2.2.2.2.2.2.2.2.1,y55.2.2.2.2.2.2.2.2.2.2.2.2.2.2.2.2.2.2.2.2.2.2.1,y55.2.2.2.2.2.2.2.2.2.2.2.2.2.2.2.2.2.2.2.2.2.2.2.1,y55.2.2.2.2.2.2.2.2.2.2.2.2.2.2.2.2.2.2.2.2.2.2.2.2.1,y55.2.2.2.2.2.2.2.2.2.2.2.2.2.2.2.2.2.2.2.2.2.2.2.2.2.1,y55.2.2.2.2.2.2.2.2.2.2.2.2.2.2.2.2.2.2.2.2.2.2.2.2.2.2.1,())) (fun y57 =>jn (fM n g0) ([110,117,109,98,101,114],y57.2.1,y57.2.2.1,y57.2.2.2.1,y57.2.2.2.2.1,y57.2.2.2.2.2.1,y57.2.2.2.2.2.2.1,y57.2.2.2.2.2.2.2.1,y57.2.2.2.2.2.2.2.2.1,y57.2.2.2.2.2.2.2.2.2.1,y57.2.2.2.2.2.2.2.2.2.2.1,y57.2.2.2.2.2.2.2.2.2.2.2.1,y57.2.2.2.2.2.2.2.2.2.2.2.2.1,y57.2.2.2.2.2.2.2.2.2.2.2.2.2.1,y57.2.2.2.2.2.2.2.2.2.2.2.2.2.2.1,y57.2.2.2.2.2.2.2.2.2.2.2.2.2.2.2.1,y57.1,y57.2.2.2.2.2.2.2.2.2.2.2.2.2.2.2.2.2.1,y57.2.2.2.2.2.2.2.2.2.2.2.2.2.2.2.2.2.2.1,y57.2.2.2.2.2.2.2.2.2.2.2.2.2.2.2.2.2.2.2.1,y57.2.2.2.2.2.2.2.2.2.2.2.2.2.2.2.2.2.2.2.2.1,y57.2.2.2.2.2.2.2.2.2.2.2.2.2.2.2.2.2.2.2.2.2.1,y57.2.2.2.2.2.2.2.2.2.2.2.2.2.2.2.2.2.2.2.2.2.2.1,y57.2.2.2.2.2.2.2.2.2.2.2.2.2.2.2.2.2.2.2.2.2.2.2.1,y57.2.2.2.2.2.2.2.2.2.2.2.2.2.2.2.2.2.2.2.2.2.2.2.2.1,y57.2.2.2.2.2.2.2.2.2.2.2.2.2.2.2.2.2.2.2.2.2.2.2.2.2.1,y57.2.2.2.2.2.2.2.2.2.2.2.2.2.2.2.2.2.2.2.2.2.2.2.2.2.2.1,yDk,())) (fun y57 =>some (.inr (y57.1,y57.2.1,y57.2.2.1,y57.2.2.2.1,y57.2.2.2.2.1,y57.2.2.2.2.2.1,y57.2.2.2.2.2.2.1,y57.2.2.2.2.2.2.2.1,y57.2.2.2.2.2.2.2.2.1,y57.2.2.2.2.2.2.2.2.2.1,y57.2.2.2.2.2.2.2.2.2.2.1,y57.2.2.2.2.2.2.2.2.2.2.2.1,y57.2.2.2.2.2.2.2.2.2.2.2.2.1,y57.2.2.2.2.2.2.2.2.2.2.2.2.2.1,y57.2.2.2.2.2.2.2.2.2.2.2.2.2.2.1,y57.2.2.2.2.2.2.2.2.2.2.2.2.2.2.2.1,y57.2.2.2.2.2.2.2.2.2.2.2.2.2.2.2.2.1,y57.2.2.2.2.2.2.2.2.2.2.2.2.2.2.2.2.2.1,y57.2.2.2.2.2.2.2.2.2.2.2.2.2.2.2.2.2.2.1,y57.2.2.2.2.2.2.2.2.2.2.2.2.2.2.2.2.2.2.2.1,y57.2.2.2.2.2.2.2.2.2.2.2.2.2.2.2.2.2.2.2.2.1,y57.2.2.2.2.2.2.2.2.2.2.2.2.2.2.2.2.2.2.2.2.2.1,y57.2.2.2.2.2.2.2.2.2.2.2.2.2.2.2.2.2.2.2.2.2.2.1,y57.2.2.2.2.2.2.2.2.2.2.2.2.2.2.2.2.2.2.2.2.2.2.2.1,y57.2.2.2.2.2.2.2.2.2.2.2.2.2.2.2.2.2.2.2.2.2.2.2.2.1,y57.2.2.2.2.2.2.2.2.2.2.2.2.2.2.2.2.2.2.2.2.2.2.2.2.2.1,y57.2.2.2.2.2.2.2.2.2.2.2.2.2.2.2.2.2.2.2.2.2.2.2.2.2.2.1,())))) (jn (fM n g0) ([110,117,109,98,101,114],y55.2.1,y55.2.2.1,y55.2.2.2.1,y55.2.2.2.2.1,y55.2.2.2.2.2.1,y55.2.2.2.2.2.2.1,y55.2.2.2.2.2.2.2.1,y55.2.2.2.2.2.2.2.2.1,y55.2.2.2.2.2.2.2.2.2.1,y55.2.2.2.2.2.2.2.2.2.2.1,y55.2.2.2.2.2.2.2.2.2.2.2.1,y55.2.2.2.2.2.2.2.2.2.2.2.2.1,y55.2.2.2.2.2.2.2.2.2.2.2.2.2.1,y55.2.2.2.2.2.2.2.2.2.2.2.2.2.2.1,y55.2.2.2.2.2.2.2.2.2.2.2.2.2.2.2.1,y55.2.2.2.2.2.2.2.2.2.2.2.2.2.2.2.2.1,y55.2.2.2.2.2.2.2.2.2.2.2.2.2.2.2.2.2.1,y55.2.2.2.2.2.2.2.2.2.2.2.2.2.2.2.2.2.2.1,y55.2.2.2.2.2.2.2.2.2.2.2.2.2.2.2.2.2.2.2.1,y55.2.2.2.2.2.2.2.2.2.2.2.2.2.2.2.2.2.2.2.2.1,y55.2.2.2.2.2.2.2.2.2.2.2.2.2.2.2.2.2.2.2.2.2.1,y55.2.2.2.2.2.2.2.2.2.2.2.2.2.2.2.2.2.2.2.2.2.2.1,y55.2.2.2.2.2.2.2.2.2.2.2.2.2.2.2.2.2.2.2.2.2.2.2.1,y55.2.2.2.2.2.2.2.2.2.2.2.2.2.2.2.2.2.2.2.2.2.2.2.2.1,y55.2.2.2.2.2.2.2.2.2.2.2.2.2.2.2.2.2.2.2.2.2.2.2.2.2.1,y55.2.2.2.2.2.2.2.2.2.2.2.2.2.2.2.2.2.2.2.2.2.2.2.2.2.2.1,yDk,()))) (ob (dG n ([103,112,73,119],y55.2.1,y55.2.2.1,y55.2.2.2.1,y55.2.2.2.2.1,y55.2.2.2.2.2.1,y55.2.2.2.2.2.2.1,y55.2.2.2.2.2.2.2.1,y55.2.2.2.2.2.2.2.2.1,y55.2.2.2.2.2.2.2.2.2.1,y55.2.2.2.2.2.2.2.2.2.2.1,y55.2.2.2.2.2.2.2.2.2.2.2.1,y55.2.2.2.2.2.2.2.2.2.2.2.2.1,y55.2.2.2.2.2.2.2.2.2.2.2.2.2.1,y55.2.2.2.2.2.2.2.2.2.2.2.2.2.2.1,y55.2.2.2.2.2.2.2.2.2.2.2.2.2.2.2.1,y55.2.2.2.2.2.2.2.2.2.2.2.2.2.2.2.2.1,y55.2.2.2.2.2.2.2.2.2.2.2.2.2.2.2.2.2.1,y55.2.2.2.2.2.2.2.2.2.2.2.2.2.2.2.2.2.2.1,y55.2.2.2.2.2.2.2.2.2.2.2.2.2.2.2.2.2.2.2.1,y55.2.2.2.2.2.2.2.2.2.2.2.2.2.2.2.2.2.2.2.2.1,y55.2.2.2.2.2.2.2.2.2.2.2.2.2.2.2.2.2.2.2.2.2.1,y55.2.2.2.2.2.2.2.2.2.2.2.2.2.2.2.2.2.2.2.2.2.2.1,y55.2.2.2.2.2.2.2.2.2.2.2.2.2.2.2.2.2.2.2.2.2.2.2.1,y55.2.2.2.2.2.2.2.2.2.2.2.2.2.2.2.2.2.2.2.2.2.2.2.2.1,y55.2.2.2.2.2.2.2.2.2.2.2.2.2.2.2.2.2.2.2.2.2.2.2.2.2.1,y55.2.2.2.2.2.2.2.2.2.2.2.2.2.2.2.2.2.2.2.2.2.2.2.2.2.2.1,())) fun eX =>br eX.1 (let yPz:Int:=qEq .i64 (eX.2.2.2.1+1)
 chk ((decide (0<=yPz)&&decide (yPz<=(eX.2.1.length:Int))&&(decide (0<=eX.2.2.2.1)&&decide (eX.2.2.2.1<=yPz)))) (let xLc:List UInt8:=(eX.2.1.take yPz.toNat).drop eX.2.2.2.1.toNat
 let v127:Int:=qEq .i64 (eX.2.2.2.1+1)
 jn (fM n g0) (xLc,eX.2.1,eX.2.2.1,v127,eX.2.2.2.2.1,eX.2.2.2.2.2.1,eX.2.2.2.2.2.2.1,eX.2.2.2.2.2.2.2.1,eX.2.2.2.2.2.2.2.2.1,eX.2.2.2.2.2.2.2.2.2.1,eX.2.2.2.2.2.2.2.2.2.2.1,eX.2.2.2.2.2.2.2.2.2.2.2.1,eX.2.2.2.2.2.2.2.2.2.2.2.2.1,eX.2.2.2.2.2.2.2.2.2.2.2.2.2.1,eX.2.2.2.2.2.2.2.2.2.2.2.2.2.2.1,eX.2.2.2.2.2.2.2.2.2.2.2.2.2.2.2.1,eX.2.2.2.2.2.2.2.2.2.2.2.2.2.2.2.2.1,eX.2.2.2.2.2.2.2.2.2.2.2.2.2.2.2.2.2.1,eX.2.2.2.2.2.2.2.2.2.2.2.2.2.2.2.2.2.2.1,eX.2.2.2.2.2.2.2.2.2.2.2.2.2.2.2.2.2.2.2.1,eX.2.2.2.2.2.2.2.2.2.2.2.2.2.2.2.2.2.2.2.2.1,eX.2.2.2.2.2.2.2.2.2.2.2.2.2.2.2.2.2.2.2.2.2.1,eX.2.2.2.2.2.2.2.2.2.2.2.2.2.2.2.2.2.2.2.2.2.2.1,eX.2.2.2.2.2.2.2.2.2.2.2.2.2.2.2.2.2.2.2.2.2.2.2.1,eX.2.2.2.2.2.2.2.2.2.2.2.2.2.2.2.2.2.2.2.2.2.2.2.2.1,eX.2.2.2.2.2.2.2.2.2.2.2.2.2.2.2.2.2.2.2.2.2.2.2.2.2.1,eX.2.2.2.2.2.2.2.2.2.2.2.2.2.2.2.2.2.2.2.2.2.2.2.2.2.2.1,yDk,()))) (some (.inl (false,eX.2.1,eX.2.2.1,eX.2.2.2.1,eX.2.2.2.2.1,eX.2.2.2.2.2.1,eX.2.2.2.2.2.2.1,eX.2.2.2.2.2.2.2.1,eX.2.2.2.2.2.2.2.2.1,eX.2.2.2.2.2.2.2.2.2.1,eX.2.2.2.2.2.2.2.2.2.2.1,eX.2.2.2.2.2.2.2.2.2.2.2.1,eX.2.2.2.2.2.2.2.2.2.2.2.2.1,eX.2.2.2.2.2.2.2.2.2.2.2.2.2.1,eX.2.2.2.2.2.2.2.2.2.2.2.2.2.2.1,eX.2.2.2.2.2.2.2.2.2.2.2.2.2.2.2.1,eX.2.2.2.2.2.2.2.2.2.2.2.2.2.2.2.2.1,eX.2.2.2.2.2.2.2.2.2.2.2.2.2.2.2.2.2.1,eX.2.2.2.2.2.2.2.2.2.2.2.2.2.2.2.2.2.2.1,eX.2.2.2.2.2.2.2.2.2.2.2.2.2.2.2.2.2.2.2.1,eX.2.2.2.2.2.2.2.2.2.2.2.2.2.2.2.2.2.2.2.2.1,eX.2.2.2.2.2.2.2.2.2.2.2.2.2.2.2.2.2.2.2.2.2.1,eX.2.2.2.2.2.2.2.2.2.2.2.2.2.2.2.2.2.2.2.2.2.2.1,eX.2.2.2.2.2.2.2.2.2.2.2.2.2.2.2.2.2.2.2.2.2.2.2.1,eX.2.2.2.2.2.2.2.2.2.2.2.2.2.2.2.2.2.2.2.2.2.2.2.2.1,eX.2.2.2.2.2.2.2.2.2.2.2.2.2.2.2.2.2.2.2.2.2.2.2.2.2.1,eX.2.2.2.2.2.2.2.2.2.2.2.2.2.2.2.2.2.2.2.2.2.2.2.2.2.2.1,()))))
def iN (n:Nat) (x:Sc0):Option (Sum (Bool×Sc0) (Int×Sc0)) :=let s1:=x.1
 let xE:=x.2.1
 let at3:=x.2.2.1
 let pQ:=x.2.2.2.1
 let uP:=x.2.2.2.2.1
 let zP:=x.2.2.2.2.2.1
 let N7:=x.2.2.2.2.2.2.1
 let M8:=x.2.2.2.2.2.2.2.1
 let zQ:=x.2.2.2.2.2.2.2.2.1
 let N10:=x.2.2.2.2.2.2.2.2.2.1
 let M11:=x.2.2.2.2.2.2.2.2.2.2.1
 let zR:=x.2.2.2.2.2.2.2.2.2.2.2.1
 let Fp:=x.2.2.2.2.2.2.2.2.2.2.2.2.1
 let uQ:=x.2.2.2.2.2.2.2.2.2.2.2.2.2.1
 let uR:=x.2.2.2.2.2.2.2.2.2.2.2.2.2.2.1
 let N16:=x.2.2.2.2.2.2.2.2.2.2.2.2.2.2.2.1
 let Yw:=x.2.2.2.2.2.2.2.2.2.2.2.2.2.2.2.2.1
 let Ht:=x.2.2.2.2.2.2.2.2.2.2.2.2.2.2.2.2.2.1
 let vR:=x.2.2.2.2.2.2.2.2.2.2.2.2.2.2.2.2.2.2.1
 let Hu:=x.2.2.2.2.2.2.2.2.2.2.2.2.2.2.2.2.2.2.2.1
 let vS:=x.2.2.2.2.2.2.2.2.2.2.2.2.2.2.2.2.2.2.2.2.1
 let qR:=x.2.2.2.2.2.2.2.2.2.2.2.2.2.2.2.2.2.2.2.2.2.1
 let iE:=x.2.2.2.2.2.2.2.2.2.2.2.2.2.2.2.2.2.2.2.2.2.2.1
 let wS:=x.2.2.2.2.2.2.2.2.2.2.2.2.2.2.2.2.2.2.2.2.2.2.2.1
 let Km:=x.2.2.2.2.2.2.2.2.2.2.2.2.2.2.2.2.2.2.2.2.2.2.2.2.1
 let zHh:=x.2.2.2.2.2.2.2.2.2.2.2.2.2.2.2.2.2.2.2.2.2.2.2.2.2.1
 fix (Eh n) n (s1,xE,at3,pQ,uP,zP,N7,M8,zQ,N10,M11,zR,Fp,uQ,uR,1,Yw,Ht,vR,Hu,vS,qR,iE,wS,Km,zHh,[],())
def rA (n:Nat) (x:Sc0):Option (Sum (Sc0) (Int×Sc0)) :=ob2 (fP n (x)) (fun y27 =>ob2 (fZ n (y27)) (fun y28 =>ob2 (fB n (y27.1,y28.2.1,y28.2.2.1,y28.2.2.2.1,y28.2.2.2.2.1,y28.2.2.2.2.2.1,y28.2.2.2.2.2.2.1,y28.2.2.2.2.2.2.2.1,y28.2.2.2.2.2.2.2.2.1,y28.2.2.2.2.2.2.2.2.2.1,y28.2.2.2.2.2.2.2.2.2.2.1,y28.2.2.2.2.2.2.2.2.2.2.2.1,y28.2.2.2.2.2.2.2.2.2.2.2.2.1,y28.2.2.2.2.2.2.2.2.2.2.2.2.2.1,y28.2.2.2.2.2.2.2.2.2.2.2.2.2.2.1,y28.2.2.2.2.2.2.2.2.2.2.2.2.2.2.2.1,y28.2.2.2.2.2.2.2.2.2.2.2.2.2.2.2.2.1,y28.2.2.2.2.2.2.2.2.2.2.2.2.2.2.2.2.2.1,y28.1,y28.2.2.2.2.2.2.2.2.2.2.2.2.2.2.2.2.2.2.2)) (fun y29 =>ob (Jq n y29.1) fun y30 =>ob2 (iI n (y30.2.2,())) (fun y31 =>let v32:=y29.2.2.2.2.2.2.2.2.2.2.2.2.2.2.2.2.2.2.1
 chk ((inB v32 (y29.2.2.2.2.2.2.2.2.2.2.2.2.2.2.2.2.2.2.2.2.2.2.1.length)&&decide (0+(y29.2.2.2.2.2.2.2.2.2.2.2.2.2.2.2.2.2.2.2.2.2.2.1.length)<=y29.2.2.2.2.2.2.2.2.2.2.2.2.2.2.2.2.2.2.2.2.2.2.1.length))) (chk (decide (0+v32.toNat<y29.2.2.2.2.2.2.2.2.2.2.2.2.2.2.2.2.2.2.2.2.2.2.1.length)) (let v33:List (NdT):=(y29.2.2.2.2.2.2.2.2.2.2.2.2.2.2.2.2.2.2.2.2.2.2.1.getD (0+v32.toNat) (Ty.dflt aU)).1
 chk (inB 0 v33.length) (let v34:Int×List (Int)×Int×Int×Int×Int×Int×Unit:=aM (Ty.dflt aT) v33 0
 br (v34.1 != 0) (ob (Ns n y30.1) fun y35 =>ob (Td n v33) fun y36 =>br (decide (y35>y36)) (ob2 (bB n (44,())) (fun y37 =>none) (fun y37 =>some (.inr (y37.1,y29.2.1,y29.2.2.1,y29.2.2.2.1,y29.2.2.2.2.1,y29.2.2.2.2.2.1,y29.2.2.2.2.2.2.1,y29.2.2.2.2.2.2.2.1,y29.2.2.2.2.2.2.2.2.1,y29.2.2.2.2.2.2.2.2.2.1,y29.2.2.2.2.2.2.2.2.2.2.1,y29.2.2.2.2.2.2.2.2.2.2.2.1,y29.2.2.2.2.2.2.2.2.2.2.2.2.1,y29.2.2.2.2.2.2.2.2.2.2.2.2.2.1,y29.2.2.2.2.2.2.2.2.2.2.2.2.2.2.1,y29.2.2.2.2.2.2.2.2.2.2.2.2.2.2.2.1,y29.2.2.2.2.2.2.2.2.2.2.2.2.2.2.2.2.1,y29.2.2.2.2.2.2.2.2.2.2.2.2.2.2.2.2.2.1,y29.2.2.2.2.2.2.2.2.2.2.2.2.2.2.2.2.2.2.1,y30.1,y29.2.2.2.2.2.2.2.2.2.2.2.2.2.2.2.2.2.2.2.2)))) (ob2 (iN n (y29.2.1,y29.2.2.1,y29.2.2.2.1,y29.2.2.2.2.1,y29.2.2.2.2.2.1,y29.2.2.2.2.2.2.1,y29.2.2.2.2.2.2.2.1,y29.2.2.2.2.2.2.2.2.1,y29.2.2.2.2.2.2.2.2.2.1,y29.2.2.2.2.2.2.2.2.2.2.1,y29.2.2.2.2.2.2.2.2.2.2.2.1,y29.2.2.2.2.2.2.2.2.2.2.2.2.1,y29.2.2.2.2.2.2.2.2.2.2.2.2.2.1,y29.2.2.2.2.2.2.2.2.2.2.2.2.2.2.1,y29.2.2.2.2.2.2.2.2.2.2.2.2.2.2.2.1,y29.2.2.2.2.2.2.2.2.2.2.2.2.2.2.2.2.1,y29.2.2.2.2.2.2.2.2.2.2.2.2.2.2.2.2.2.1,y29.2.2.2.2.2.2.2.2.2.2.2.2.2.2.2.2.2.2.1,y30.1,y29.2.2.2.2.2.2.2.2.2.2.2.2.2.2.2.2.2.2.2.2)) (fun y38 =>ob (cO n (y38.2)) fun y39 =>br (!y38.1) (ob2 (eO n (y39)) (fun y40 =>some (.inl (y40))) (fun y40 =>some (.inr (y40)))) (some (.inl (y39)))) (fun y38 =>some (.inr (y38))))) (ob2 (iN n (y29.2.1,y29.2.2.1,y29.2.2.2.1,y29.2.2.2.2.1,y29.2.2.2.2.2.1,y29.2.2.2.2.2.2.1,y29.2.2.2.2.2.2.2.1,y29.2.2.2.2.2.2.2.2.1,y29.2.2.2.2.2.2.2.2.2.1,y29.2.2.2.2.2.2.2.2.2.2.1,y29.2.2.2.2.2.2.2.2.2.2.2.1,y29.2.2.2.2.2.2.2.2.2.2.2.2.1,y29.2.2.2.2.2.2.2.2.2.2.2.2.2.1,y29.2.2.2.2.2.2.2.2.2.2.2.2.2.2.1,y29.2.2.2.2.2.2.2.2.2.2.2.2.2.2.2.1,y29.2.2.2.2.2.2.2.2.2.2.2.2.2.2.2.2.1,y29.2.2.2.2.2.2.2.2.2.2.2.2.2.2.2.2.2.1,y29.2.2.2.2.2.2.2.2.2.2.2.2.2.2.2.2.2.2.1,y30.1,y29.2.2.2.2.2.2.2.2.2.2.2.2.2.2.2.2.2.2.2.2)) (fun y41 =>ob (cO n (y41.2)) fun y42 =>br (!y41.1) (ob2 (eO n (y42)) (fun y43 =>some (.inl (y43))) (fun y43 =>some (.inr (y43)))) (some (.inl (y42)))) (fun y41 =>some (.inr (y41)))))))) (fun y31 =>some (.inr (y31.1,y29.2)))) (fun y29 =>some (.inr (y29)))) (fun y28 =>some (.inr (y28)))) (fun y27 =>some (.inr (y27)))
def Vs (n:Nat) (g0:List UInt8×Int×List (Int)×Unit->Option (List UInt8×Int×Int)) (x1:List UInt8×Int×List (Int)×Unit):Option (List UInt8×Int×Int) :=let s_2:=x1.1
 let i_3:=x1.2.1
 let Dk:=x1.2.2.1
 br (decide (i_3<(s_2.length:Int))) (chk (inB i_3 s_2.length) (let v5:Int:=((aM 0 s_2 i_3).toNat:Int)
 br (v5==10) (some ([],i_3,100)) (br (v5==92) (let v6:Int:=qEq .i64 (i_3+1)
 br (v6==(s_2.length:Int)) (some ([],i_3,100)) (let v7:Int:=qEq .i64 (i_3+1)
 chk (inB v7 s_2.length) (let v8:Int:=((aM 0 s_2 v7).toNat:Int)
 ob (strings_IndexByte n ([110,92,47],v8)) fun y9 =>br (decide (y9 < 0)) (some ([],i_3,100)) (let v10:Int:=qEq .i64 (i_3+1)
 chk (inB v10 s_2.length) (let v11:Int:=((aM 0 s_2 v10).toNat:Int)
 br (v11==110) (chk (qBg ((Dk.length+([10]:List (Int)).length) * 1) room) (let v12:Int:=qEq .i64 (v10+1)
 g0 (s_2,v12,Dk++[10],()))) (chk (qBg ((Dk.length+([v11]:List (Int)).length) * 1) room) (let v13:Int:=qEq .i64 (v10+1)
 g0 (s_2,v13,Dk++[v11],())))))))) (chk (qBg ((Dk.length+([v5]:List (Int)).length) * 1) room) (let v14:Int:=qEq .i64 (i_3+1)
 g0 (s_2,v14,Dk++[v5],())))))) (some (bV Dk,0,0))
def Db (n:Nat) (x:List UInt8):Option (List UInt8×Int×Int) :=let s_0:=x
 fix (Vs n) n (s_0,0,[],())
def Yz (n:Nat) (g0:Int×List (Int)×Unit->Option (List (Int))) (x1:Int×List (Int)×Unit):Option (List (Int)) :=let zYr:=x1.1
 let b3:=x1.2.1
 br (decide (zYr < 256)) (chk (inB zYr 256) (chk (decide (zYr.toNat < 256)) (let v4:Int:=qEq .i64 (zYr+1)
 g0 (v4,b3.set (zYr.toNat) (qEq .u8 zYr),())))) (some b3)
def Nv (n:Nat) (x:Unit):Option (List (Int)) :=fix (Yz n) n (0,(qAf 256 0),())
def Za (n:Nat) (g0:List UInt8×List UInt8×Int×Int×List (Int)×List (Int)×List (Bool)×Unit->Option (List (Int)×Int)) (x2:List UInt8×List UInt8×Int×Int×List (Int)×List (Int)×List (Bool)×Unit):Option (List (Int)×Int) :=let yXw:=x2.1
 let yXx:=x2.2.1
 let xAy:=x2.2.2.1
 let zOj:=x2.2.2.2.1
 let b7:=x2.2.2.2.2.1
 let b8:=x2.2.2.2.2.2.1
 let b9:=x2.2.2.2.2.2.2.1
 br (decide (zOj<xAy)) (chk (inB zOj yXw.length) (let v10:Int:=((aM 0 yXw zOj).toNat:Int)
 chk (inB v10 256) (chk (decide (v10.toNat < 256)) (br (b9.getD (v10.toNat) (Ty.dflt .bool)) (some ((qAf 256 0),100)) (chk (inB zOj yXx.length) (let v11:Int:=((aM 0 yXx zOj).toNat:Int)
 chk (inB v10 256) (chk (decide (v10.toNat < 256)) (chk (inB v10 256) (chk (decide (v10.toNat < 256)) (let v12:Int:=qEq .i64 (zOj+1)
 g0 (yXw,yXx,xAy,v12,b7,b8.set (v10.toNat) v11,b9.set (v10.toNat) true,()))))))))))) (some (b8,0))
def Nw (n:Nat) (x:List UInt8×List UInt8):Option (List (Int)×Int) :=let yXy:=x.1
 let xFx:=x.2
 br ((yXy.length:Int) != (xFx.length:Int)) (some ((qAf 256 0),100)) (ob (Nv n ()) fun y1 =>fix (Za n) n (yXy,xFx,(yXy.length:Int),0,(qAf 256 0),y1,(qAf 256 false),()))
def bC (n:Nat) (x:Sc0):Option (Sum (Sc0) (Int×Sc0)) :=ob (cO n (x)) fun y27 =>ob2 (eO n (y27)) (fun y28 =>some (.inl (y28))) (fun y28 =>some (.inr (y28)))
def mH (n:Nat) (x:Sc0):Option (Sum (Sc0) (Int×Sc0)) :=ob2 (fP n (x)) (fun y27 =>ob2 (fB n (y27)) (fun y28 =>ob2 (fB n (y27.1,y28.2)) (fun y29 =>ob (Db n y28.1) fun y30 =>ob2 (iI n (y30.2.2,())) (fun y31 =>ob (Db n y29.1) fun y32 =>ob2 (iI n (y32.2.2,())) (fun y33 =>ob (Nw n (y30.1,y32.1)) fun y34 =>ob2 (iI n (y34.2,())) (fun y35 =>ob2 (bC n (y29.2.1,y29.2.2.1,y29.2.2.2.1,y29.2.2.2.2.1,y29.2.2.2.2.2.1,y29.2.2.2.2.2.2.1,y29.2.2.2.2.2.2.2.1,y29.2.2.2.2.2.2.2.2.1,y29.2.2.2.2.2.2.2.2.2.1,y29.2.2.2.2.2.2.2.2.2.2.1,y29.2.2.2.2.2.2.2.2.2.2.2.1,y29.2.2.2.2.2.2.2.2.2.2.2.2.1,y29.2.2.2.2.2.2.2.2.2.2.2.2.2.1,y30.1,y32.1,y29.2.2.2.2.2.2.2.2.2.2.2.2.2.2.2.2)) (fun y36 =>some (.inl (y36))) (fun y36 =>some (.inr (y36)))) (fun y35 =>some (.inr (y35.1,y29.2)))) (fun y33 =>some (.inr (y33.1,y29.2)))) (fun y31 =>some (.inr (y31.1,y29.2)))) (fun y29 =>some (.inr (y29)))) (fun y28 =>some (.inr (y28)))) (fun y27 =>some (.inr (y27)))
def sU (n:Nat) (x:Sc6):Option (Bool×List (Int)×Unit) :=let Nq:=x.1
 let Np:=x.2.1
 br (Nq==[10]) (some (false,Np,())) (br (Nq==[92]) (some (false,Np,())) (let v3:Int:=qEq .i64 ((Nq.length:Int) - 1)
 chk ((decide (0<=v3)&&decide (v3<=(Nq.length:Int)))) (ob (eT n (Nq.drop v3.toNat,Np,())) fun y4 =>some (true,y4.2.2.1,()))))
def xA (n:Nat) (g0:List UInt8×Int×List (Int)×Unit->Option (Int×List (Int)×Unit)) (x3:List UInt8×Int×List (Int)×Unit):Option (Int×List (Int)×Unit) :=let s_4:=x3.1
 let i_5:=x3.2.1
 let bM:=x3.2.2.1
 br (decide (i_5<(s_4.length:Int))) (chk (inB i_5 s_4.length) (let v7:Int:=((aM 0 s_4 i_5).toNat:Int)
 br (v7==92) (let v8:Int:=qEq .i64 (i_5+1)
 br (decide (v8<(s_4.length:Int))) (let v9:Int:=qEq .i64 (i_5+2)
 chk ((decide (0<=v9)&&decide (v9<=(s_4.length:Int))&&(decide (0<=i_5)&&decide (i_5<=v9)))) (let v10:List UInt8:=(s_4.take v9.toNat).drop i_5.toNat
 ob (sU n (v10,bM,())) fun y11 =>br (!y11.1) (some (i_5,y11.2.1,())) (let v12:Int:=qEq .i64 (i_5+2)
 g0 (s_4,v12,y11.2.1,())))) (let v13:Int:=qEq .i64 (i_5+1)
 chk ((decide (0<=v13)&&decide (v13<=(s_4.length:Int))&&(decide (0<=i_5)&&decide (i_5<=v13)))) (let v14:List UInt8:=(s_4.take v13.toNat).drop i_5.toNat
 ob (sU n (v14,bM,())) fun y15 =>br (!y15.1) (some (i_5,y15.2.1,())) (let v16:Int:=qEq .i64 (i_5+1)
 g0 (s_4,v16,y15.2.1,()))))) (let v17:Int:=qEq .i64 (i_5+1)
 chk ((decide (0<=v17)&&decide (v17<=(s_4.length:Int))&&(decide (0<=i_5)&&decide (i_5<=v17)))) (let v18:List UInt8:=(s_4.take v17.toNat).drop i_5.toNat
 ob (sU n (v18,bM,())) fun y19 =>br (!y19.1) (some (i_5,y19.2.1,())) (let v20:Int:=qEq .i64 (i_5+1)
 g0 (s_4,v20,y19.2.1,())))))) (some (i_5,bM,()))
def kN (n:Nat) (x:Sc6):Option (Int×List (Int)×Unit) :=let s_1:=x.1
 let Np:=x.2.1
 fix (xA n) n (s_1,0,Np,())
def Ny (n:Nat) (x:List UInt8×Int):Option (List UInt8×Int×Int) :=let s_0:=x.1
 let uX:=x.2
 ob (lU n (s_0,uX)) fun y1 =>ob (kN n (y1.1,[],())) fun y2 =>chk ((decide (0<=y2.1)&&decide (y2.1<=(y1.1.length:Int)))) (ob (strings_HasPrefix n (y1.1.drop y2.1.toNat,[92])) fun y3 =>br y3 (some ([],y1.2,120)) (br (decide (y2.1<(y1.1.length:Int))) (let v4:Int:=qEq .i64 (y2.1+1)
 ob (Builder_String n (y2.2.1,())) fun y5 =>chk (decide (y5.1.length+([10]:List UInt8).length<=qV)) (let v6:Int:=qEq .i64 (y1.2+v4)
 some (y5.1++[10],v6,0))) (ob (Builder_String n (y2.2.1,())) fun y7 =>chk (decide (y7.1.length+([10]:List UInt8).length<=qV)) (let v8:Int:=qEq .i64 (y1.2+y2.1)
 some (y7.1++[10],v8,0)))))
def vZ (n:Nat) (x59:Sc0):Option (Sum (Sc0) (Int×Sc0)) :=let s60:=x59.1
 let zVh:=x59.2.1
 let yGa:=x59.2.2.1
 let zFa:=x59.2.2.2.1
 let zFb:=x59.2.2.2.2.1
 let zLp:=x59.2.2.2.2.2.1
 let N66:=x59.2.2.2.2.2.2.1
 let M67:=x59.2.2.2.2.2.2.2.1
 let zLq:=x59.2.2.2.2.2.2.2.2.1
 let N69:=x59.2.2.2.2.2.2.2.2.2.1
 let M70:=x59.2.2.2.2.2.2.2.2.2.2.1
 let zVi:=x59.2.2.2.2.2.2.2.2.2.2.2.1
 let yGb:=x59.2.2.2.2.2.2.2.2.2.2.2.2.1
 ob (Ny n (s60,yGa)) fun y86 =>ob2 (iI n (y86.2.2,())) (fun y87 =>ob (cO n (s60,zVh,y86.2.1,zFa,zFb,zLp,N66,M67,zLq,N69,M70,zVi,yGb,y86.1,x59.2.2.2.2.2.2.2.2.2.2.2.2.2.2)) fun y88 =>some (.inl (y88))) (fun y87 =>some (.inr (y87.1,x59)))
def lC (n:Nat) (x31:Sc0):Option (Sum (Sc0) (Int×Sc0)) :=let s32:=x31.1
 let yFi:=x31.2.2.1
 br (yFi==(s32.length:Int)) (ob2 (bB n (120,())) (fun y58 =>none) (fun y58 =>some (.inr (y58.1,x31)))) (jn (vZ n) (x31))
def lD (n:Nat) (x:Sc0):Option (Sum (Sc0) (Int×Sc0)) :=ob (bR n (x)) fun y27 =>chk ((decide (0<=y27.2.2.1)&&decide (y27.2.2.1<=(y27.1.length:Int)))) (let v28:List UInt8:=y27.1.drop y27.2.2.1.toNat
 ob (strings_HasPrefix n (v28,[92,10])) fun y29 =>br y29 (let v30:Int:=qEq .i64 (y27.2.2.1+2)
 jn (lC n) (y27.1,y27.2.1,v30,y27.2.2.2)) (jn (lC n) (y27)))
def gW (n:Nat) (x:Sc2):Option (Sc2) :=let s1:=x.1
 let xE:=x.2.1
 let at3:=x.2.2.1
 ob (nM n (s1,at3)) fun y27 =>some (s1,xE,y27,x.2.2.2)
def iR (n:Nat) (x:List UInt8×Sc2):Option (List UInt8×Sc2) :=let yFn:=x.1
 ob (gW n (x.2)) fun y28 =>ob (sD n (y28.1,y28.2.2.1,yFn)) fun y29 =>some (y29.1,y28.1,y28.2.1,y29.2,y28.2.2.2)
def iT (n:Nat) (x:Sc2):Option (Sum (List UInt8×Sc2) (Int×Sc2)) :=ob (iR n ([59,125],x)) fun y27 =>ob (strings_ContainsAny n (y27.1,[32,9])) fun y28 =>br y28 (ob2 (bB n (122,())) (fun y29 =>none) (fun y29 =>some (.inr (y29.1,y27.2)))) (some (.inl (y27)))
def gX(n:Nat)(x:Sc4):Option (Sum (List UInt8 × Sc4) (Int × Sc4)):=match iT n (x.1,x.2.1,x.2.2.1,undef,x.2.2.2.1,undef,x.2.2.2.2.1,x.2.2.2.2.2.1,x.2.2.2.2.2.2.1,x.2.2.2.2.2.2.2.1,x.2.2.2.2.2.2.2.2.1,x.2.2.2.2.2.2.2.2.2.1,x.2.2.2.2.2.2.2.2.2.2.1,x.2.2.2.2.2.2.2.2.2.2.2.1,x.2.2.2.2.2.2.2.2.2.2.2.2.1,x.2.2.2.2.2.2.2.2.2.2.2.2.2.1,x.2.2.2.2.2.2.2.2.2.2.2.2.2.2.1,x.2.2.2.2.2.2.2.2.2.2.2.2.2.2.2.1,x.2.2.2.2.2.2.2.2.2.2.2.2.2.2.2.2.1,x.2.2.2.2.2.2.2.2.2.2.2.2.2.2.2.2.2.1,x.2.2.2.2.2.2.2.2.2.2.2.2.2.2.2.2.2.2.1,x.2.2.2.2.2.2.2.2.2.2.2.2.2.2.2.2.2.2.2.1,undef,x.2.2.2.2.2.2.2.2.2.2.2.2.2.2.2.2.2.2.2.2) with|some (.inl y)=>some (.inl (y.1,y.2.1,y.2.2.1,y.2.2.2.1,y.2.2.2.2.2.1,y.2.2.2.2.2.2.2.1,y.2.2.2.2.2.2.2.2.1,y.2.2.2.2.2.2.2.2.2.1,y.2.2.2.2.2.2.2.2.2.2.1,y.2.2.2.2.2.2.2.2.2.2.2.1,y.2.2.2.2.2.2.2.2.2.2.2.2.1,y.2.2.2.2.2.2.2.2.2.2.2.2.2.1,y.2.2.2.2.2.2.2.2.2.2.2.2.2.2.1,y.2.2.2.2.2.2.2.2.2.2.2.2.2.2.2.1,y.2.2.2.2.2.2.2.2.2.2.2.2.2.2.2.2.1,y.2.2.2.2.2.2.2.2.2.2.2.2.2.2.2.2.2.1,y.2.2.2.2.2.2.2.2.2.2.2.2.2.2.2.2.2.2.1,y.2.2.2.2.2.2.2.2.2.2.2.2.2.2.2.2.2.2.2.1,y.2.2.2.2.2.2.2.2.2.2.2.2.2.2.2.2.2.2.2.2.1,y.2.2.2.2.2.2.2.2.2.2.2.2.2.2.2.2.2.2.2.2.2.1,y.2.2.2.2.2.2.2.2.2.2.2.2.2.2.2.2.2.2.2.2.2.2.1,y.2.2.2.2.2.2.2.2.2.2.2.2.2.2.2.2.2.2.2.2.2.2.2.2))|some (.inr z)=>some (.inr (z.1,z.2.1,z.2.2.1,z.2.2.2.1,z.2.2.2.2.2.1,z.2.2.2.2.2.2.2.1,z.2.2.2.2.2.2.2.2.1,z.2.2.2.2.2.2.2.2.2.1,z.2.2.2.2.2.2.2.2.2.2.1,z.2.2.2.2.2.2.2.2.2.2.2.1,z.2.2.2.2.2.2.2.2.2.2.2.2.1,z.2.2.2.2.2.2.2.2.2.2.2.2.2.1,z.2.2.2.2.2.2.2.2.2.2.2.2.2.2.1,z.2.2.2.2.2.2.2.2.2.2.2.2.2.2.2.1,z.2.2.2.2.2.2.2.2.2.2.2.2.2.2.2.2.1,z.2.2.2.2.2.2.2.2.2.2.2.2.2.2.2.2.2.1,z.2.2.2.2.2.2.2.2.2.2.2.2.2.2.2.2.2.2.1,z.2.2.2.2.2.2.2.2.2.2.2.2.2.2.2.2.2.2.2.1,z.2.2.2.2.2.2.2.2.2.2.2.2.2.2.2.2.2.2.2.2.1,z.2.2.2.2.2.2.2.2.2.2.2.2.2.2.2.2.2.2.2.2.2.1,z.2.2.2.2.2.2.2.2.2.2.2.2.2.2.2.2.2.2.2.2.2.2.1,z.2.2.2.2.2.2.2.2.2.2.2.2.2.2.2.2.2.2.2.2.2.2.2.2))|none=>none
def jV (n:Nat) (x:Sc0):Option (Sum (Sc0) (Int×Sc0)) :=let s1:=x.1
 let xE:=x.2.1
 let at3:=x.2.2.1
 let pQ:=x.2.2.2.1
 let uP:=x.2.2.2.2.1
 let zP:=x.2.2.2.2.2.1
 let N7:=x.2.2.2.2.2.2.1
 let M8:=x.2.2.2.2.2.2.2.1
 let zQ:=x.2.2.2.2.2.2.2.2.1
 let N10:=x.2.2.2.2.2.2.2.2.2.1
 let M11:=x.2.2.2.2.2.2.2.2.2.2.1
 let zR:=x.2.2.2.2.2.2.2.2.2.2.2.1
 let Fp:=x.2.2.2.2.2.2.2.2.2.2.2.2.1
 let uQ:=x.2.2.2.2.2.2.2.2.2.2.2.2.2.1
 let uR:=x.2.2.2.2.2.2.2.2.2.2.2.2.2.2.1
 let N16:=x.2.2.2.2.2.2.2.2.2.2.2.2.2.2.2.1
 let Yw:=x.2.2.2.2.2.2.2.2.2.2.2.2.2.2.2.2.1
 let Ht:=x.2.2.2.2.2.2.2.2.2.2.2.2.2.2.2.2.2.1
 let vR:=x.2.2.2.2.2.2.2.2.2.2.2.2.2.2.2.2.2.2.1
 let Hu:=x.2.2.2.2.2.2.2.2.2.2.2.2.2.2.2.2.2.2.2.1
 let vS:=x.2.2.2.2.2.2.2.2.2.2.2.2.2.2.2.2.2.2.2.2.1
 let qR:=x.2.2.2.2.2.2.2.2.2.2.2.2.2.2.2.2.2.2.2.2.2.1
 let iE:=x.2.2.2.2.2.2.2.2.2.2.2.2.2.2.2.2.2.2.2.2.2.2.1
 let wS:=x.2.2.2.2.2.2.2.2.2.2.2.2.2.2.2.2.2.2.2.2.2.2.2.1
 let Km:=x.2.2.2.2.2.2.2.2.2.2.2.2.2.2.2.2.2.2.2.2.2.2.2.2.1
 let zHh:=x.2.2.2.2.2.2.2.2.2.2.2.2.2.2.2.2.2.2.2.2.2.2.2.2.2.1
 let v27:Int:=((iE.length:Nat):Int)
 ob2 (gX n (s1,xE,at3,uP,zP,N7,M8,zQ,N10,M11,zR,Fp,uQ,uR,N16,Yw,Ht,vR,Hu,vS,qR,wS,zHh,())) (fun y28 =>chk (qBg ((Km.length+([(v27,(pQ,(y28.1,())))]:List (Sc5)).length) * 32) room) (let r29:List (Sc5):=Km++[(v27,(pQ,(y28.1,())))]
 ob2 (bC n (y28.2.1,y28.2.2.1,y28.2.2.2.1,pQ,y28.2.2.2.2.1,y28.2.2.2.2.2.1,y28.2.2.2.2.2.2.1,y28.2.2.2.2.2.2.2.1,y28.2.2.2.2.2.2.2.2.1,y28.2.2.2.2.2.2.2.2.2.1,y28.2.2.2.2.2.2.2.2.2.2.1,y28.2.2.2.2.2.2.2.2.2.2.2.1,y28.2.2.2.2.2.2.2.2.2.2.2.2.1,y28.2.2.2.2.2.2.2.2.2.2.2.2.2.1,y28.2.2.2.2.2.2.2.2.2.2.2.2.2.2.1,y28.2.2.2.2.2.2.2.2.2.2.2.2.2.2.2.1,y28.2.2.2.2.2.2.2.2.2.2.2.2.2.2.2.2.1,y28.2.2.2.2.2.2.2.2.2.2.2.2.2.2.2.2.2.1,y28.2.2.2.2.2.2.2.2.2.2.2.2.2.2.2.2.2.2.1,y28.2.2.2.2.2.2.2.2.2.2.2.2.2.2.2.2.2.2.2.1,y28.2.2.2.2.2.2.2.2.2.2.2.2.2.2.2.2.2.2.2.2.1,y28.2.2.2.2.2.2.2.2.2.2.2.2.2.2.2.2.2.2.2.2.2.1,iE,y28.2.2.2.2.2.2.2.2.2.2.2.2.2.2.2.2.2.2.2.2.2.2.1,r29,y28.2.2.2.2.2.2.2.2.2.2.2.2.2.2.2.2.2.2.2.2.2.2.2.1,())) (fun y30 =>some (.inl (y30))) (fun y30 =>some (.inr (y30))))) (fun y28 =>some (.inr (y28.1,y28.2.1,y28.2.2.1,y28.2.2.2.1,pQ,y28.2.2.2.2.1,y28.2.2.2.2.2.1,y28.2.2.2.2.2.2.1,y28.2.2.2.2.2.2.2.1,y28.2.2.2.2.2.2.2.2.1,y28.2.2.2.2.2.2.2.2.2.1,y28.2.2.2.2.2.2.2.2.2.2.1,y28.2.2.2.2.2.2.2.2.2.2.2.1,y28.2.2.2.2.2.2.2.2.2.2.2.2.1,y28.2.2.2.2.2.2.2.2.2.2.2.2.2.1,y28.2.2.2.2.2.2.2.2.2.2.2.2.2.2.1,y28.2.2.2.2.2.2.2.2.2.2.2.2.2.2.2.1,y28.2.2.2.2.2.2.2.2.2.2.2.2.2.2.2.2.1,y28.2.2.2.2.2.2.2.2.2.2.2.2.2.2.2.2.2.1,y28.2.2.2.2.2.2.2.2.2.2.2.2.2.2.2.2.2.2.1,y28.2.2.2.2.2.2.2.2.2.2.2.2.2.2.2.2.2.2.2.1,y28.2.2.2.2.2.2.2.2.2.2.2.2.2.2.2.2.2.2.2.2.1,y28.2.2.2.2.2.2.2.2.2.2.2.2.2.2.2.2.2.2.2.2.2.1,iE,y28.2.2.2.2.2.2.2.2.2.2.2.2.2.2.2.2.2.2.2.2.2.2.1,Km,y28.2.2.2.2.2.2.2.2.2.2.2.2.2.2.2.2.2.2.2.2.2.2.2.1,())))
def jH (n:Nat) (x27:Sc0):Option (Sum (Sc0) (Int×Sc0)) :=ob (bR n (x27)) fun y54 =>ob (dG n ([48,49,50,51,52,53,54,55,56,57],y54)) fun y55 =>br y55.1 (ob2 (dY n (120,y55.2)) (fun y56 =>let v57:=y56.2.2.2.2.2.2.2.2.2.2.2.2.2.1
 br (v57 != 108) (br (decide (y56.1 > 255)) (ob2 (bB n (120,())) (fun y58 =>none) (fun y58 =>some (.inr (y58.1,y56.2.1,y56.2.2.1,y56.2.2.2.1,y56.2.2.2.2.1,y56.2.2.2.2.2.1,y56.2.2.2.2.2.2.1,y56.2.2.2.2.2.2.2.1,y56.2.2.2.2.2.2.2.2.1,y56.2.2.2.2.2.2.2.2.2.1,y56.2.2.2.2.2.2.2.2.2.2.1,y56.2.2.2.2.2.2.2.2.2.2.2.1,y56.2.2.2.2.2.2.2.2.2.2.2.2.1,y56.2.2.2.2.2.2.2.2.2.2.2.2.2.1,y56.2.2.2.2.2.2.2.2.2.2.2.2.2.2.1,y56.2.2.2.2.2.2.2.2.2.2.2.2.2.2.2.1,y56.1,y56.2.2.2.2.2.2.2.2.2.2.2.2.2.2.2.2.2)))) (ob2 (bC n (y56.2.1,y56.2.2.1,y56.2.2.2.1,y56.2.2.2.2.1,y56.2.2.2.2.2.1,y56.2.2.2.2.2.2.1,y56.2.2.2.2.2.2.2.1,y56.2.2.2.2.2.2.2.2.1,y56.2.2.2.2.2.2.2.2.2.1,y56.2.2.2.2.2.2.2.2.2.2.1,y56.2.2.2.2.2.2.2.2.2.2.2.1,y56.2.2.2.2.2.2.2.2.2.2.2.2.1,y56.2.2.2.2.2.2.2.2.2.2.2.2.2.1,y56.2.2.2.2.2.2.2.2.2.2.2.2.2.2.1,y56.2.2.2.2.2.2.2.2.2.2.2.2.2.2.2.1,y56.1,y56.2.2.2.2.2.2.2.2.2.2.2.2.2.2.2.2.2)) (fun y59 =>some (.inl (y59))) (fun y59 =>some (.inr (y59))))) (ob2 (bC n (y56.2.1,y56.2.2.1,y56.2.2.2.1,y56.2.2.2.2.1,y56.2.2.2.2.2.1,y56.2.2.2.2.2.2.1,y56.2.2.2.2.2.2.2.1,y56.2.2.2.2.2.2.2.2.1,y56.2.2.2.2.2.2.2.2.2.1,y56.2.2.2.2.2.2.2.2.2.2.1,y56.2.2.2.2.2.2.2.2.2.2.2.1,y56.2.2.2.2.2.2.2.2.2.2.2.2.1,y56.2.2.2.2.2.2.2.2.2.2.2.2.2.1,y56.2.2.2.2.2.2.2.2.2.2.2.2.2.2.1,y56.2.2.2.2.2.2.2.2.2.2.2.2.2.2.2.1,y56.1,y56.2.2.2.2.2.2.2.2.2.2.2.2.2.2.2.2.2)) (fun y60 =>some (.inl (y60))) (fun y60 =>some (.inr (y60))))) (fun y56 =>some (.inr (y56)))) (ob2 (bC n (y55.2)) (fun y61 =>some (.inl (y61))) (fun y61 =>some (.inr (y61))))
def iU (n:Nat) (x:Sc0):Option (Sum (Sc0) (Int×Sc0)) :=let s1:=x.1
 let xE:=x.2.1
 let at3:=x.2.2.1
 let pQ:=x.2.2.2.1
 let uP:=x.2.2.2.2.1
 let zP:=x.2.2.2.2.2.1
 let N7:=x.2.2.2.2.2.2.1
 let M8:=x.2.2.2.2.2.2.2.1
 let zQ:=x.2.2.2.2.2.2.2.2.1
 let N10:=x.2.2.2.2.2.2.2.2.2.1
 let M11:=x.2.2.2.2.2.2.2.2.2.2.1
 let zR:=x.2.2.2.2.2.2.2.2.2.2.2.1
 let Fp:=x.2.2.2.2.2.2.2.2.2.2.2.2.1
 let uQ:=x.2.2.2.2.2.2.2.2.2.2.2.2.2.1
 let uR:=x.2.2.2.2.2.2.2.2.2.2.2.2.2.2.1
 br (Fp==108) (jn (jH n) (s1,xE,at3,pQ,uP,zP,N7,M8,zQ,N10,M11,zR,Fp,uQ,uR,(-1),x.2.2.2.2.2.2.2.2.2.2.2.2.2.2.2.2)) (jn (jH n) (s1,xE,at3,pQ,uP,zP,N7,M8,zQ,N10,M11,zR,Fp,uQ,uR,0,x.2.2.2.2.2.2.2.2.2.2.2.2.2.2.2.2))
def oD (n:Nat) (x:Sc0):Option (Sum (Sc0) (Int×Sc0)) :=ob (eB n ([],x)) fun y27 =>br (y27.1==[]) (ob2 (bB n (120,())) (fun y28 =>none) (fun y28 =>some (.inr (y28.1,y27.2.1,y27.2.2.1,y27.2.2.2.1,y27.2.2.2.2.1,y27.2.2.2.2.2.1,y27.2.2.2.2.2.2.1,y27.2.2.2.2.2.2.2.1,y27.2.2.2.2.2.2.2.2.1,y27.2.2.2.2.2.2.2.2.2.1,y27.2.2.2.2.2.2.2.2.2.2.1,y27.2.2.2.2.2.2.2.2.2.2.2.1,y27.2.2.2.2.2.2.2.2.2.2.2.2.1,y27.2.2.2.2.2.2.2.2.2.2.2.2.2.1,y27.1,y27.2.2.2.2.2.2.2.2.2.2.2.2.2.2.2)))) (ob (cO n (y27.2.1,y27.2.2.1,y27.2.2.2.1,y27.2.2.2.2.1,y27.2.2.2.2.2.1,y27.2.2.2.2.2.2.1,y27.2.2.2.2.2.2.2.1,y27.2.2.2.2.2.2.2.2.1,y27.2.2.2.2.2.2.2.2.2.1,y27.2.2.2.2.2.2.2.2.2.2.1,y27.2.2.2.2.2.2.2.2.2.2.2.1,y27.2.2.2.2.2.2.2.2.2.2.2.2.1,y27.2.2.2.2.2.2.2.2.2.2.2.2.2.1,y27.1,y27.2.2.2.2.2.2.2.2.2.2.2.2.2.2.2)) fun y29 =>some (.inl (y29)))
def eU (n:Nat) (x65:Sc0):Option (Sum (Sc0) (Int×Sc0)) :=let fF:=x65.2.2.2.2.2.2.2.2.2.2.2.2.1
 br (!(fF==123||(fF==125||(fF==58||(fF==115||(fF==121||(fF==61||(fF==100||(fF==68||(fF==103||(fF==71||(fF==104||(fF==72||(fF==110||(fF==78||(fF==112||(fF==80||(fF==120||(fF==97||(fF==105||(fF==99||(fF==98||(fF==116||(fF==84||(fF==108||(fF==113||(fF==81||(fF==114||(fF==119||false))))))))))))))))))))))))))))) (ob2 (bB n (120,())) (fun y92 =>none) (fun y92 =>some (.inr (y92.1,x65)))) (br (fF==123) (ob (nC n (x65)) fun y93 =>some (.inl (y93))) (br (fF==125) (ob2 (qY n (x65)) (fun y94 =>some (.inl (y94))) (fun y94 =>some (.inr (y94)))) (br (fF==58) (ob2 (qZ n (x65)) (fun y95 =>some (.inl (y95))) (fun y95 =>some (.inr (y95)))) (br (fF==115) (ob2 (rA n (x65)) (fun y96 =>some (.inl (y96))) (fun y96 =>some (.inr (y96)))) (br (fF==121) (ob2 (mH n (x65)) (fun y97 =>some (.inl (y97))) (fun y97 =>some (.inr (y97)))) (br (fF==61) (ob2 (bC n (x65)) (fun y98 =>some (.inl (y98))) (fun y98 =>some (.inr (y98)))) (br (fF==100) (ob2 (bC n (x65)) (fun y99 =>some (.inl (y99))) (fun y99 =>some (.inr (y99)))) (br (fF==68) (ob2 (bC n (x65)) (fun yXz =>some (.inl (yXz))) (fun yXz =>some (.inr (yXz)))) (br (fF==103) (ob2 (bC n (x65)) (fun y101 =>some (.inl (y101))) (fun y101 =>some (.inr (y101)))) (br (fF==71) (ob2 (bC n (x65)) (fun y102 =>some (.inl (y102))) (fun y102 =>some (.inr (y102)))) (br (fF==104) (ob2 (bC n (x65)) (fun yYa =>some (.inl (yYa))) (fun yYa =>some (.inr (yYa)))) (br (fF==72) (ob2 (bC n (x65)) (fun y104 =>some (.inl (y104))) (fun y104 =>some (.inr (y104)))) (br (fF==110) (ob2 (bC n (x65)) (fun yYb =>some (.inl (yYb))) (fun yYb =>some (.inr (yYb)))) (br (fF==78) (ob2 (bC n (x65)) (fun yYc =>some (.inl (yYc))) (fun yYc =>some (.inr (yYc)))) (br (fF==112) (ob2 (bC n (x65)) (fun yYd =>some (.inl (yYd))) (fun yYd =>some (.inr (yYd)))) (br (fF==80) (ob2 (bC n (x65)) (fun yYe =>some (.inl (yYe))) (fun yYe =>some (.inr (yYe)))) (br (fF==120) (ob2 (bC n (x65)) (fun yYf =>some (.inl (yYf))) (fun yYf =>some (.inr (yYf)))) (br (fF==97) (ob2 (lD n (x65)) (fun yYg =>some (.inl (yYg))) (fun yYg =>some (.inr (yYg)))) (br (fF==105) (ob2 (lD n (x65)) (fun yYh =>some (.inl (yYh))) (fun yYh =>some (.inr (yYh)))) (br (fF==99) (ob2 (lD n (x65)) (fun y112 =>some (.inl (y112))) (fun y112 =>some (.inr (y112)))) (br (fF==98) (ob2 (jV n (x65)) (fun y113 =>some (.inl (y113))) (fun y113 =>some (.inr (y113)))) (br (fF==116) (ob2 (jV n (x65)) (fun y114 =>some (.inl (y114))) (fun y114 =>some (.inr (y114)))) (br (fF==84) (ob2 (jV n (x65)) (fun y115 =>some (.inl (y115))) (fun y115 =>some (.inr (y115)))) (br (fF==108) (ob2 (iU n (x65)) (fun yYi =>some (.inl (yYi))) (fun yYi =>some (.inr (yYi)))) (br (fF==113) (ob2 (iU n (x65)) (fun yYj =>some (.inl (yYj))) (fun yYj =>some (.inr (yYj)))) (br (fF==81) (ob2 (iU n (x65)) (fun yYk =>some (.inl (yYk))) (fun yYk =>some (.inr (yYk)))) (br (fF==114) (ob2 (oD n (x65)) (fun yYl =>some (.inl (yYl))) (fun yYl =>some (.inr (yYl)))) (br (fF==119) (ob2 (oD n (x65)) (fun yYm =>some (.inl (yYm))) (fun yYm =>some (.inr (yYm)))) (none)))))))))))))))))))))))))))))
def gL (n:Nat) (x31:Int×Sc0):Option (Sum (Sc0) (Int×Sc0)) :=let yYn:=x31.1
 ob2 (fP n (x31.2)) (fun y59 =>ob (strings_IndexByte n ([125,58],y59.1)) fun y60 =>br (decide (y60≥0)) (br (decide (yYn > 0)) (ob2 (bB n (121,())) (fun y61 =>none) (fun y61 =>some (.inr (y61.1,y59.2.1,y59.2.2.1,y59.2.2.2.1,y59.2.2.2.2.1,y59.2.2.2.2.2.1,y59.2.2.2.2.2.2.1,y59.2.2.2.2.2.2.2.1,y59.2.2.2.2.2.2.2.2.1,y59.2.2.2.2.2.2.2.2.2.1,y59.2.2.2.2.2.2.2.2.2.2.1,y59.2.2.2.2.2.2.2.2.2.2.2.1,y59.2.2.2.2.2.2.2.2.2.2.2.2.1,y59.1,y59.2.2.2.2.2.2.2.2.2.2.2.2.2.2)))) (br y59.2.2.2.2.2.2.2.2.2.2.2.2.1 (ob2 (bB n (121,())) (fun y62 =>none) (fun y62 =>some (.inr (y62.1,y59.2.1,y59.2.2.1,y59.2.2.2.1,y59.2.2.2.2.1,y59.2.2.2.2.2.1,y59.2.2.2.2.2.2.1,y59.2.2.2.2.2.2.2.1,y59.2.2.2.2.2.2.2.2.1,y59.2.2.2.2.2.2.2.2.2.1,y59.2.2.2.2.2.2.2.2.2.2.1,y59.2.2.2.2.2.2.2.2.2.2.2.1,y59.2.2.2.2.2.2.2.2.2.2.2.2.1,y59.1,y59.2.2.2.2.2.2.2.2.2.2.2.2.2.2)))) (ob (strings_IndexByte n ([113,81],y59.1)) fun y63 =>br (decide (y63≥0)) (br (decide (yYn > 1)) (ob2 (bB n (121,())) (fun y64 =>none) (fun y64 =>some (.inr (y64.1,y59.2.1,y59.2.2.1,y59.2.2.2.1,y59.2.2.2.2.1,y59.2.2.2.2.2.1,y59.2.2.2.2.2.2.1,y59.2.2.2.2.2.2.2.1,y59.2.2.2.2.2.2.2.2.1,y59.2.2.2.2.2.2.2.2.2.1,y59.2.2.2.2.2.2.2.2.2.2.1,y59.2.2.2.2.2.2.2.2.2.2.2.1,y59.2.2.2.2.2.2.2.2.2.2.2.2.1,y59.1,y59.2.2.2.2.2.2.2.2.2.2.2.2.2.2)))) (jn (eU n) (y59.2.1,y59.2.2.1,y59.2.2.2.1,y59.2.2.2.2.1,y59.2.2.2.2.2.1,y59.2.2.2.2.2.2.1,y59.2.2.2.2.2.2.2.1,y59.2.2.2.2.2.2.2.2.1,y59.2.2.2.2.2.2.2.2.2.1,y59.2.2.2.2.2.2.2.2.2.2.1,y59.2.2.2.2.2.2.2.2.2.2.2.1,y59.2.2.2.2.2.2.2.2.2.2.2.2.1,y59.1,y59.2.2.2.2.2.2.2.2.2.2.2.2.2.2))) (jn (eU n) (y59.2.1,y59.2.2.1,y59.2.2.2.1,y59.2.2.2.2.1,y59.2.2.2.2.2.1,y59.2.2.2.2.2.2.1,y59.2.2.2.2.2.2.2.1,y59.2.2.2.2.2.2.2.2.1,y59.2.2.2.2.2.2.2.2.2.1,y59.2.2.2.2.2.2.2.2.2.2.1,y59.2.2.2.2.2.2.2.2.2.2.2.1,y59.2.2.2.2.2.2.2.2.2.2.2.2.1,y59.1,y59.2.2.2.2.2.2.2.2.2.2.2.2.2.2))))) (ob (strings_IndexByte n ([113,81],y59.1)) fun qO =>br (decide (qO≥0)) (br (decide (yYn > 1)) (ob2 (bB n (121,())) (fun fE =>none) (fun fE =>some (.inr (fE.1,y59.2.1,y59.2.2.1,y59.2.2.2.1,y59.2.2.2.2.1,y59.2.2.2.2.2.1,y59.2.2.2.2.2.2.1,y59.2.2.2.2.2.2.2.1,y59.2.2.2.2.2.2.2.2.1,y59.2.2.2.2.2.2.2.2.2.1,y59.2.2.2.2.2.2.2.2.2.2.1,y59.2.2.2.2.2.2.2.2.2.2.2.1,y59.2.2.2.2.2.2.2.2.2.2.2.2.1,y59.1,y59.2.2.2.2.2.2.2.2.2.2.2.2.2.2)))) (jn (eU n) (y59.2.1,y59.2.2.1,y59.2.2.2.1,y59.2.2.2.2.1,y59.2.2.2.2.2.1,y59.2.2.2.2.2.2.1,y59.2.2.2.2.2.2.2.1,y59.2.2.2.2.2.2.2.2.1,y59.2.2.2.2.2.2.2.2.2.1,y59.2.2.2.2.2.2.2.2.2.2.1,y59.2.2.2.2.2.2.2.2.2.2.2.1,y59.2.2.2.2.2.2.2.2.2.2.2.2.1,y59.1,y59.2.2.2.2.2.2.2.2.2.2.2.2.2.2))) (jn (eU n) (y59.2.1,y59.2.2.1,y59.2.2.2.1,y59.2.2.2.2.1,y59.2.2.2.2.2.1,y59.2.2.2.2.2.2.1,y59.2.2.2.2.2.2.2.1,y59.2.2.2.2.2.2.2.2.1,y59.2.2.2.2.2.2.2.2.2.1,y59.2.2.2.2.2.2.2.2.2.2.1,y59.2.2.2.2.2.2.2.2.2.2.2.1,y59.2.2.2.2.2.2.2.2.2.2.2.2.1,y59.1,y59.2.2.2.2.2.2.2.2.2.2.2.2.2.2)))) (fun y59 =>some (.inr (y59)))
def oF (n:Nat) (x:Sc0):Option (Sum (Sc0) (Int×Sc0)) :=let s1:=x.1
 let xE:=x.2.1
 let at3:=x.2.2.1
 let uP:=x.2.2.2.2.1
 ob2 (mG n (s1,xE,at3,at3,uP,0,0,0,0,0,0,false,0,[],[],0,0,(-1),[],false,false,x.2.2.2.2.2.2.2.2.2.2.2.2.2.2.2.2.2.2.2.2.2)) (fun y27 =>ob (bR n (y27.2)) fun y28 =>ob (dK n ([33],y28)) fun y29 =>br y29.1 (ob (bR n (y29.2.1,y29.2.2.1,y29.2.2.2.1,y29.2.2.2.2.1,y29.2.2.2.2.2.1,y29.2.2.2.2.2.2.1,y29.2.2.2.2.2.2.2.1,y29.2.2.2.2.2.2.2.2.1,y29.2.2.2.2.2.2.2.2.2.1,y29.2.2.2.2.2.2.2.2.2.2.1,y29.2.2.2.2.2.2.2.2.2.2.2.1,true,y29.2.2.2.2.2.2.2.2.2.2.2.2.2)) fun y30 =>jn (gL n) (y27.1,y30)) (jn (gL n) (y27.1,y29.2))) (fun y27 =>some (.inr (y27)))
def kP (n:Nat) (g1:Int×Int×List UInt8×Bool×Int×Int×Bool×Int×Int×Int×Int×Int×Int×Bool×Int×List UInt8×List UInt8×Int×Int×Int×List (List UInt8×Int×Unit)×Bool×Bool×List (List (NdT)×Bool×Unit)×List (Sc1)×List (Sc5)×List (Sc5)×List (List UInt8×Int)×Unit->Option (Sum (Sc0) (Int×Sc0))) (nV:Int×Bool×Int×Int×List UInt8×Bool×Int×Int×Bool×Int×Int×Int×Int×Int×Int×Bool×Int×List UInt8×List UInt8×Int×Int×Int×List (List UInt8×Int×Unit)×Bool×Bool×List (List (NdT)×Bool×Unit)×List (Sc1)×List (Sc5)×List (Sc5)×List (List UInt8×Int)×Sc5):Option (Sum (Sc0) (Int×Sc0)) :=let xFy:Int:=nV.1
 let xFz:Bool:=nV.2.1
 let xCz:Int:=nV.2.2.1
 let xDa:Int:=nV.2.2.2.1
 let xGa:List UInt8:=nV.2.2.2.2.1
 let yTo:Bool:=nV.2.2.2.2.2.1
 let xAz:Int:=nV.2.2.2.2.2.2.1
 let yGe:Bool:=nV.2.2.2.2.2.2.2.2.1
 let yLr:Int:=nV.2.2.2.2.2.2.2.2.2.1
 let xGb:Int:=nV.2.2.2.2.2.2.2.2.2.2.1
 let xGc:Int:=nV.2.2.2.2.2.2.2.2.2.2.2.1
 let yLs:Int:=nV.2.2.2.2.2.2.2.2.2.2.2.2.1
 let xGd:Int:=nV.2.2.2.2.2.2.2.2.2.2.2.2.2.1
 let xGe:Int:=nV.2.2.2.2.2.2.2.2.2.2.2.2.2.2.1
 let yTp:Bool:=nV.2.2.2.2.2.2.2.2.2.2.2.2.2.2.2.1
 let xBa:Int:=nV.2.2.2.2.2.2.2.2.2.2.2.2.2.2.2.2.1
 let yLt:List UInt8:=nV.2.2.2.2.2.2.2.2.2.2.2.2.2.2.2.2.2.1
 let yLu:List UInt8:=nV.2.2.2.2.2.2.2.2.2.2.2.2.2.2.2.2.2.2.1
 let xGf:Int:=nV.2.2.2.2.2.2.2.2.2.2.2.2.2.2.2.2.2.2.2.1
 let xBb:Int:=nV.2.2.2.2.2.2.2.2.2.2.2.2.2.2.2.2.2.2.2.2.1
 let yTq:Int:=nV.2.2.2.2.2.2.2.2.2.2.2.2.2.2.2.2.2.2.2.2.2.1
 let yGf:List (List UInt8×Int×Unit):=nV.2.2.2.2.2.2.2.2.2.2.2.2.2.2.2.2.2.2.2.2.2.2.1
 let yTr:Bool:=nV.2.2.2.2.2.2.2.2.2.2.2.2.2.2.2.2.2.2.2.2.2.2.2.1
 let yGg:Bool:=nV.2.2.2.2.2.2.2.2.2.2.2.2.2.2.2.2.2.2.2.2.2.2.2.2.1
 let yTs:List (List (NdT)×Bool×Unit):=nV.2.2.2.2.2.2.2.2.2.2.2.2.2.2.2.2.2.2.2.2.2.2.2.2.2.1
 let nN:List (Sc1):=nV.2.2.2.2.2.2.2.2.2.2.2.2.2.2.2.2.2.2.2.2.2.2.2.2.2.2.1
 let yTt:List (Sc5):=nV.2.2.2.2.2.2.2.2.2.2.2.2.2.2.2.2.2.2.2.2.2.2.2.2.2.2.2.1
 let yTu:List (Sc5):=nV.2.2.2.2.2.2.2.2.2.2.2.2.2.2.2.2.2.2.2.2.2.2.2.2.2.2.2.2.1
 let yTv:List (List UInt8×Int):=nV.2.2.2.2.2.2.2.2.2.2.2.2.2.2.2.2.2.2.2.2.2.2.2.2.2.2.2.2.2.1
 let rC:Int:=nV.2.2.2.2.2.2.2.2.2.2.2.2.2.2.2.2.2.2.2.2.2.2.2.2.2.2.2.2.2.2.1
 let xBc:Int:=nV.2.2.2.2.2.2.2.2.2.2.2.2.2.2.2.2.2.2.2.2.2.2.2.2.2.2.2.2.2.2.2.1
 br (!xFz) (ob2 (bB n (122,())) (fun y158 =>none) (fun y158 =>some (.inr (y158.1,xGa,yTo,xAz,xBc,yGe,yLr,xGb,xGc,yLs,xGd,xGe,yTp,xBa,yLt,yLu,xGf,xBb,yTq,yGf,yTr,yGg,yTs,nN,yTt,yTu,yTv,())))) (chk ((inB rC (nN.length)&&decide (0+(nN.length)<=nN.length))) (chk (decide (0+rC.toNat<nN.length)) (let xLd:List (Sc1):=nN.set (0+rC.toNat) ((((nN.getD (0+rC.toNat) (Ty.dflt aB)).1.1.1,((nN.getD (0+rC.toNat) (Ty.dflt aB)).1.1.2.1,((nN.getD (0+rC.toNat) (Ty.dflt aB)).1.1.2.2.1,()))),(((nN.getD (0+rC.toNat) (Ty.dflt aB)).1.2.1.1,((nN.getD (0+rC.toNat) (Ty.dflt aB)).1.2.1.2.1,((nN.getD (0+rC.toNat) (Ty.dflt aB)).1.2.1.2.2.1,()))),((nN.getD (0+rC.toNat) (Ty.dflt aB)).1.2.2.1,()))),((nN.getD (0+rC.toNat) (Ty.dflt aB)).2.1,((nN.getD (0+rC.toNat) (Ty.dflt aB)).2.2.1,((nN.getD (0+rC.toNat) (Ty.dflt aB)).2.2.2.1,((nN.getD (0+rC.toNat) (Ty.dflt aB)).2.2.2.2.1,(xFy,((nN.getD (0+rC.toNat) (Ty.dflt aB)).2.2.2.2.2.2.1,((nN.getD (0+rC.toNat) (Ty.dflt aB)).2.2.2.2.2.2.2.1,((nN.getD (0+rC.toNat) (Ty.dflt aB)).2.2.2.2.2.2.2.2.1,((nN.getD (0+rC.toNat) (Ty.dflt aB)).2.2.2.2.2.2.2.2.2.1,()))))))))))
 let v160:Int:=qEq .i64 (xDa+1)
 g1 (xCz,v160,xGa,yTo,xAz,xBc,yGe,yLr,xGb,xGc,yLs,xGd,xGe,yTp,xBa,yLt,yLu,xGf,xBb,yTq,yGf,yTr,yGg,yTs,xLd,yTt,yTu,yTv,()))))
def Ei (n:Nat) (g1:Int×Int×List UInt8×Bool×Int×Int×Bool×Int×Int×Int×Int×Int×Int×Bool×Int×List UInt8×List UInt8×Int×Int×Int×List (List UInt8×Int×Unit)×Bool×Bool×List (List (NdT)×Bool×Unit)×List (Sc1)×List (Sc5)×List (Sc5)×List (List UInt8×Int)×Unit->Option (Sum (Sc0) (Int×Sc0))) (x92:Int×Int×Sc0):Option (Sum (Sc0) (Int×Sc0)) :=let yGh:=x92.1
 let Aa:=x92.2.1
 let s95:=x92.2.2.1
 let xBd:=x92.2.2.2.1
 let xGg:=x92.2.2.2.2.1
 let yLv:=x92.2.2.2.2.2.1
 let yLw:=x92.2.2.2.2.2.2.1
 let yLx:=x92.2.2.2.2.2.2.2.1
 let xGh:=x92.2.2.2.2.2.2.2.2.1
 let xGi:=x92.2.2.2.2.2.2.2.2.2.1
 let yLy:=x92.2.2.2.2.2.2.2.2.2.2.1
 let xGj:=x92.2.2.2.2.2.2.2.2.2.2.2.1
 let xGk:=x92.2.2.2.2.2.2.2.2.2.2.2.2.1
 let yTw:=x92.2.2.2.2.2.2.2.2.2.2.2.2.2.1
 let xBe:=x92.2.2.2.2.2.2.2.2.2.2.2.2.2.2.1
 let yLz:=x92.2.2.2.2.2.2.2.2.2.2.2.2.2.2.2.1
 let yMa:=x92.2.2.2.2.2.2.2.2.2.2.2.2.2.2.2.2.1
 let xGl:=x92.2.2.2.2.2.2.2.2.2.2.2.2.2.2.2.2.2.1
 let xBf:=x92.2.2.2.2.2.2.2.2.2.2.2.2.2.2.2.2.2.2.1
 let yTx:=x92.2.2.2.2.2.2.2.2.2.2.2.2.2.2.2.2.2.2.2.1
 let yGi:=x92.2.2.2.2.2.2.2.2.2.2.2.2.2.2.2.2.2.2.2.2.1
 let yTy:=x92.2.2.2.2.2.2.2.2.2.2.2.2.2.2.2.2.2.2.2.2.2.1
 let yGj:=x92.2.2.2.2.2.2.2.2.2.2.2.2.2.2.2.2.2.2.2.2.2.2.1
 let Tf:=x92.2.2.2.2.2.2.2.2.2.2.2.2.2.2.2.2.2.2.2.2.2.2.2.1
 let Nt:=x92.2.2.2.2.2.2.2.2.2.2.2.2.2.2.2.2.2.2.2.2.2.2.2.2.1
 let Tg:=x92.2.2.2.2.2.2.2.2.2.2.2.2.2.2.2.2.2.2.2.2.2.2.2.2.2.1
 let xZ:=x92.2.2.2.2.2.2.2.2.2.2.2.2.2.2.2.2.2.2.2.2.2.2.2.2.2.2.1
 let Nu:=x92.2.2.2.2.2.2.2.2.2.2.2.2.2.2.2.2.2.2.2.2.2.2.2.2.2.2.2.1
 br (decide (Aa<yGh)) (chk ((inB Aa (xZ.length)&&decide (0+(xZ.length)<=xZ.length))) (chk (decide (0+Aa.toNat<xZ.length)) (let xGm:List UInt8:=(xZ.getD (0+Aa.toNat) (Ty.dflt gG)).2.2.1
 let xLe:List UInt8:=(xZ.getD (0+Aa.toNat) (Ty.dflt gG)).2.2.1
 br (xLe==[]) (let xLf:Int:=((Nt.length:Nat):Int)
 jn (kP n g1) (xLf,true,yGh,Aa,s95,xBd,xGg,yLv,yLw,yLx,xGh,xGi,yLy,xGj,xGk,yTw,xBe,yLz,yMa,xGl,xBf,yTx,yGi,yTy,yGj,Tf,Nt,Tg,xZ,Nu,(xZ.getD (0+Aa.toNat) (Ty.dflt gG)).1,(xZ.getD (0+Aa.toNat) (Ty.dflt gG)).2.1,(xZ.getD (0+Aa.toNat) (Ty.dflt gG)).2.2.1,())) (jn (kP n g1) (jP .str 0 Nu xGm,(zXu .str Nu xGm),yGh,Aa,s95,xBd,xGg,yLv,yLw,yLx,xGh,xGi,yLy,xGj,xGk,yTw,xBe,yLz,yMa,xGl,xBf,yTx,yGi,yTy,yGj,Tf,Nt,Tg,xZ,Nu,(xZ.getD (0+Aa.toNat) (Ty.dflt gG)).1,(xZ.getD (0+Aa.toNat) (Ty.dflt gG)).2.1,(xZ.getD (0+Aa.toNat) (Ty.dflt gG)).2.2.1,()))))) (some (.inl (x92.2.2)))
def oP (n:Nat) (x64:Sc0):Option (Sum (Sc0) (Int×Sc0)) :=let xJh:=x64.2.2.2.2.2.2.2.2.2.2.2.2.2.2.2.2.2.2.2.2.2.2.2.2.1
 let v91:Int:=((xJh.length:Nat):Int)
 fix (Ei n) n (v91,0,x64)
def Ej (n:Nat) (g0:List UInt8×Bool×Int×Int×Bool×Int×Int×Int×Int×Int×Int×Bool×Int×List UInt8×List UInt8×Int×Int×Int×List (List UInt8×Int×Unit)×Bool×Bool×List (List (NdT)×Bool×Unit)×List (Sc1)×List (Sc5)×List (Sc5)×List (List UInt8×Int)×Unit->Option (Sum (Sc0) (Int×Sc0))) (x28:Sc0):Option (Sum (Sc0) (Int×Sc0)) :=let s29:=x28.1
 let xJi:=x28.2.1
 let xGn:=x28.2.2.1
 let zCc:=x28.2.2.2.2.2.2.2.2.2.2.2.2.2.2.2.2.2.2.2.2.2.2.2.1
 br (decide (xGn<(s29.length:Int))) (ob (dG n ([32,9,10,59],x28)) fun y55 =>br y55.1 (let v56:Int:=qEq .i64 (y55.2.2.2.1+1)
 g0 (y55.2.1,y55.2.2.1,v56,y55.2.2.2.2)) (ob (dG n ([35],y55.2)) fun y57 =>br y57.1 (ob (eB n ([],y57.2)) fun y58 =>g0 (y58.2)) (ob2 (oF n (y57.2)) (fun y59 =>g0 (y59)) (fun y59 =>some (.inr (y59)))))) (let v60:Int:=((zCc.length:Nat):Int)
 let v61:Int:=qEq .i64 (v60 - 1)
 br (decide (v61≥0)) (chk ((inB v61 (zCc.length)&&decide (0+(zCc.length)<=zCc.length))) (chk (decide (0+v61.toNat<zCc.length)) (let v62:Int:=(zCc.getD (0+v61.toNat) (Ty.dflt gG)).2.1
 ob2 (bB n (123,())) (fun y63 =>none) (fun y63 =>some (.inr (y63.1,s29,xJi,xGn,v62,x28.2.2.2.2)))))) (jn (oP n) (x28)))
def nD (n:Nat) (x:Sc0):Option (Sum (Sc0) (Int×Sc0)) :=ob (zDe n ()) fun y27 =>fix (Ej n) n (x)
def bZ (n:Nat) (x:Sc0):Option (Int×Sc0):=ob2 (nD n x) (fun y=>some (0,y)) (fun y=>some y)
def sV (n:Nat) (x:List UInt8×Bool):Option ((Bool×List (List (NdT)×Bool×Unit)×List (Sc1)×Unit)×Int×Int) :=let s_0:=x.1
 let yQa:=x.2
 br (decide ((s_0.length:Int) > 4000)) (some ((false,([],([],()))),0,2)) (br (s_0==[35,110]) (ob (bZ n (s_0,yQa,2,0,true,0,0,0,0,0,0,false,0,[],[],0,0,0,[],false,false,[],[],[],[],[],())) fun y1 =>br (y1.1 != 0) (some ((false,([],([],()))),y1.2.2.2.2.1,y1.1)) (some ((y1.2.2.2.2.2.1,(y1.2.2.2.2.2.2.2.2.2.2.2.2.2.2.2.2.2.2.2.2.2.2.1,(y1.2.2.2.2.2.2.2.2.2.2.2.2.2.2.2.2.2.2.2.2.2.2.2.1,()))),0,0))) (ob (strings_HasPrefix n (s_0,[35,110,10])) fun y2 =>br y2 (ob (bZ n (s_0,yQa,2,0,true,0,0,0,0,0,0,false,0,[],[],0,0,0,[],false,false,[],[],[],[],[],())) fun y3 =>br (y3.1 != 0) (some ((false,([],([],()))),y3.2.2.2.2.1,y3.1)) (some ((y3.2.2.2.2.2.1,(y3.2.2.2.2.2.2.2.2.2.2.2.2.2.2.2.2.2.2.2.2.2.2.1,(y3.2.2.2.2.2.2.2.2.2.2.2.2.2.2.2.2.2.2.2.2.2.2.2.1,()))),0,0))) (ob (bZ n (s_0,yQa,0,0,false,0,0,0,0,0,0,false,0,[],[],0,0,0,[],false,false,[],[],[],[],[],())) fun y4 =>br (y4.1 != 0) (some ((false,([],([],()))),y4.2.2.2.2.1,y4.1)) (some ((y4.2.2.2.2.2.1,(y4.2.2.2.2.2.2.2.2.2.2.2.2.2.2.2.2.2.2.2.2.2.2.1,(y4.2.2.2.2.2.2.2.2.2.2.2.2.2.2.2.2.2.2.2.2.2.2.2.1,()))),0,0)))))
end Go.Dec
namespace Go.Dec
def Nz (a:List UInt8):List (List UInt8)->List (List UInt8) | []=>[a] | b :: r=>bif decide (a<=b) then a :: b :: r else b :: Nz a r
def tH:List (List UInt8)->List (List UInt8) | []=>[] | a :: r=>Nz a (tH r)
def Zb:List (List UInt8)->Bool | []=>true | a :: r=>!r.contains a&&Zb r
def lF (_n:Nat) (x:List (List UInt8×Int)×Unit):Option (List (List UInt8)×List (List UInt8×Int)×Unit) :=chk (Zb (x.1.map Prod.fst)&&(qBg x.1.length 1000000&&x.1.all fun e=>qBg e.1.length 1000000)) (some (tH (x.1.map Prod.fst),x.1,()))
def kI(_n:Nat)(x:List (List (List UInt8))):Option (List (List UInt8)):=
 match x with
 |[a,b]=>chk (qBg (a.length+b.length) 1000000) (some (a++b))
 |_=>none
set_option linter.unusedVariables false
def Cn (n:Nat) (x:List (List UInt8×Int)×Unit):Option (List (List UInt8×Int)×Unit) :=let xLg:=x.1
 some (xLg,())
def Ti (n:Nat) (g0:List (Sc1)×Int×Int×List (List UInt8×Int)×List (List UInt8×Int)×Unit->Option (List (List UInt8)×List (List UInt8))) (x1:List (Sc1)×Int×Int×List (List UInt8×Int)×List (List UInt8×Int)×Unit):Option (List (List UInt8)×List (List UInt8)) :=let zHj:=x1.1
 let zOk:=x1.2.1
 let zCd:=x1.2.2.1
 let zSf:=x1.2.2.2.1
 let zLr:=x1.2.2.2.2.1
 br (decide (zCd<zOk)) (chk (inB zCd zHj.length) (let v7:((Int×Int×Int×Unit)×(Int×Int×Int×Unit)×Bool×Unit)×Int×List UInt8×List UInt8×Int×Int×Int×List (List UInt8×Int×Unit)×Bool×Bool×Unit:=aM (Ty.dflt aB) zHj zCd
 br (v7.2.2.1==[]) (let v8:Int:=qEq .i64 (zCd+1)
 g0 (zHj,zOk,v8,zSf,zLr,())) (br (v7.2.1==114) (let v9:Int:=jP .str 0 zSf v7.2.2.1
 let v10:Int:=qEq .i64 (v9+1)
 let v11:Int:=qEq .i64 (zCd+1)
 g0 (zHj,zOk,v11,uV .str zSf v7.2.2.1 v10,zLr,())) (br (v7.2.1==119) (let v12:Int:=jP .str 0 zLr v7.2.2.1
 let v13:Int:=qEq .i64 (v12+1)
 let v14:Int:=qEq .i64 (zCd+1)
 g0 (zHj,zOk,v14,zSf,uV .str zLr v7.2.2.1 v13,())) (br (v7.2.1==115) (let v15:Int:=jP .str 0 zLr v7.2.2.1
 let v16:Int:=qEq .i64 (v15+1)
 let v17:Int:=qEq .i64 (zCd+1)
 g0 (zHj,zOk,v17,zSf,uV .str zLr v7.2.2.1 v16,())) (let v18:Int:=qEq .i64 (zCd+1)
 g0 (zHj,zOk,v18,zSf,zLr,()))))))) (ob (Cn n (zSf,())) fun y19 =>ob (lF n (y19.1,())) fun y20 =>ob (Cn n (zLr,())) fun y21 =>ob (lF n (y21.1,())) fun y22 =>some (y20.1,y22.1))
def Oa (n:Nat) (x:Bool×List (List (Int×List (Int)×Int×Int×Int×Int×Int×Unit)×Bool×Unit)×List (Sc1)×Unit):Option (List (List UInt8)×List (List UInt8)) :=let x_0:=x
 fix (Ti n) n (x_0.2.2.1,(x_0.2.2.1.length:Int),0,[],[],())
end Go.Dec
namespace Go.Dec
def jB (n:Nat) (x:aO.den):Option (List (List UInt8)×List (List UInt8)) :=br x.2.2.2.1 (some ([],[])) (ob (Oa n x.1) fun y=>chk (qBg (y.1.length+x.2.2.1.length) 1000000) (some (Go.Lib.compact (tH (y.1++x.2.2.1)),y.2)))
set_option linter.unusedVariables false
abbrev pm0:Type:=(Bool × List (List (NdT) × Bool × Unit) × List (((Int × Int × Int × Unit) × (Int × Int × Int × Unit) × Bool × Unit) × Int × List UInt8 × List UInt8 × Int × Int × Int × List (List UInt8 × Int × Unit) × Bool × Bool × Unit) × Unit) × Bool × List (List UInt8) × Bool × Unit
abbrev pm1:Type:=Bool × List (List (NdT) × Bool × Unit) × List (((Int × Int × Int × Unit) × (Int × Int × Int × Unit) × Bool × Unit) × Int × List UInt8 × List UInt8 × Int × Int × Int × List (List UInt8 × Int × Unit) × Bool × Bool × Unit) × Bool × List (List UInt8) × Bool × Unit
abbrev pm2:Type:=List UInt8 × List (List UInt8) × Bool × Unit
def zCe (n:Nat) (g0:List (pm2)×Int×List (pm0)×Unit->Option (List (pm0)×Bool)) (g1:List (pm2)×Int×Int×List (pm0)×Unit->Option (List (pm0)×Bool)) (x7:List (pm2)×Int×Int×List (pm0)×Unit):Option (List (pm0)×Bool) :=let l_8:=x7.1
 let i_9:=x7.2.1
 let yQb:=x7.2.2.1
 let zVj:=x7.2.2.2.1
 chk (inB i_9 l_8.length) (let v12:List UInt8×List (List UInt8)×Bool×Unit:=aM (Ty.dflt qI) l_8 i_9
 br (decide (yQb<(v12.2.1.length:Int))) (chk (inB i_9 l_8.length) (let v13:List UInt8×List (List UInt8)×Bool×Unit:=aM (Ty.dflt qI) l_8 i_9
 chk (inB yQb v13.2.1.length) (let v14:List UInt8:=aM (Ty.dflt .str) v13.2.1 yQb
 br (decide ((v14.length:Int) > 60)) (some ([],false)) (let v15:Int:=qEq .i64 (yQb+1)
 g1 (l_8,i_9,v15,zVj,()))))) (chk (inB i_9 l_8.length) (let v16:List UInt8×List (List UInt8)×Bool×Unit:=aM (Ty.dflt qI) l_8 i_9
 ob (sV n (v16.1,false)) fun y17 =>chk (inB i_9 l_8.length) (let v18:List UInt8×List (List UInt8)×Bool×Unit:=aM (Ty.dflt qI) l_8 i_9
 chk (inB i_9 l_8.length) (let v19:List UInt8×List (List UInt8)×Bool×Unit:=aM (Ty.dflt qI) l_8 i_9
 chk (qBg ((zVj.length+([(y17.1,(false,(v18.2.1,v19.2.2)))]:List (pm0)).length) * 96) room) (let r20:List (pm0):=zVj++[(y17.1,(false,(v18.2.1,v19.2.2)))]
 let v21:Int:=qEq .i64 (i_9+1)
 g0 (l_8,v21,r20,())))))))
def El (n:Nat) (g0:List (pm2)×Int×List (pm0)×Unit->Option (List (pm0)×Bool)) (x1:List (pm2)×Int×List (pm0)×Unit):Option (List (pm0)×Bool) :=let l_2:=x1.1
 let i_3:=x1.2.1
 let Dk:=x1.2.2.1
 br (decide (i_3<(l_2.length:Int))) (chk (inB i_3 l_2.length) (let v5:List UInt8×List (List UInt8)×Bool×Unit:=aM (Ty.dflt qI) l_2 i_3
 br (decide ((v5.1.length:Int) > 100)) (some ([],false)) (chk (inB i_3 l_2.length) (let v6:List UInt8×List (List UInt8)×Bool×Unit:=aM (Ty.dflt qI) l_2 i_3
 br (decide ((v6.2.1.length:Int) > 5)) (some ([],false)) (fix (zCe n g0) n (l_2,i_3,0,Dk,())))))) (some (Dk,(decide ((l_2.length:Int)<=10))))
def Tj (n:Nat) (x:List (pm2)):Option (List (pm0)×Bool) :=let l_0:=x
 fix (El n) n (l_0,0,[],())
def Em (n:Nat) (g0:List (List UInt8)×List UInt8×Int×Int×Unit->Option (Int)) (x1:List (List UInt8)×List UInt8×Int×Int×Unit):Option (Int) :=let s_2:=x1.1
 let v_3:=x1.2.1
 let yFm:=x1.2.2.1
 let Yt:=x1.2.2.2.1
 br (decide (Yt<yFm)) (chk (inB Yt s_2.length) (let v6:List UInt8:=aM (Ty.dflt .str) s_2 Yt
 br (v_3==v6) (some Yt) (let v7:Int:=qEq .i64 (Yt+1)
 g0 (s_2,v_3,yFm,v7,())))) (some (-1))
def rD (n:Nat) (x:List (List UInt8)×List UInt8):Option (Int) :=let s_0:=x.1
 let v_1:=x.2
 fix (Em n) n (s_0,v_1,(s_0.length:Int),0,())
def sF (n:Nat) (x:List (List UInt8)×List UInt8):Option (Bool) :=let s_0:=x.1
 let v_1:=x.2
 ob (rD n (s_0,v_1)) fun y1 =>some (decide (y1≥0))
def pR (n:Nat) (x:List UInt8×List (List UInt8)×Unit):Option (Bool×List (List UInt8)×Unit) :=let x_1:=x.1
 let b2:=x.2.1
 ob (sF n (b2,x_1)) fun y3 =>some (y3,b2,())
def kJ (n:Nat) (g0:List (List UInt8)×Int×Int×List (List UInt8)×Unit->Option (Int×List (List UInt8)×Unit)) (x3:List (List UInt8)×Int×Int×List (List UInt8)×Unit):Option (Int×List (List UInt8)×Unit) :=let s_4:=x3.1
 let zSe:=x3.2.1
 let yGk:=x3.2.2.1
 let b7:=x3.2.2.2.1
 br (decide (yGk<zSe)) (chk (inB yGk s_4.length) (let v8:List UInt8:=aM (Ty.dflt .str) s_4 yGk
 ob (pR n (v8,b7,())) fun y9 =>br y9.1 (some (yGk,y9.2.1,())) (let v10:Int:=qEq .i64 (yGk+1)
 g0 (s_4,zSe,v10,y9.2.1,())))) (some ((-1),b7,()))
def dR (n:Nat) (x:List (List UInt8)×List (List UInt8)×Unit):Option (Int×List (List UInt8)×Unit) :=let s_1:=x.1
 let b2:=x.2.1
 fix (kJ n) n (s_1,(s_1.length:Int),0,b2,())
def eY (n:Nat) (x:List (List UInt8)×List (List UInt8)×Unit):Option (Bool×List (List UInt8)×Unit) :=let s_1:=x.1
 let b2:=x.2.1
 ob (dR n (s_1,b2,())) fun y3 =>some ((decide (y3.1≥0)),y3.2.1,())
def oG (n:Nat) (x:List (List UInt8)×List (List UInt8)):Option (Bool) :=let a_0:=x.1
 let b_1:=x.2
 ob (eY n (a_0,b_1,())) fun y1 =>some y1.1
def lV (n:Nat) (x:(pm0)×pm0):Option (Bool) :=let a_0:=x.1
 let b_1:=x.2
 ob (jB n a_0) fun y1 =>ob (jB n b_1) fun y2 =>ob (kI n [y1.1,y1.2]) fun y3 =>ob (oG n (y3,y2.2)) fun y4 =>br y4 (some true) (ob (oG n (y1.2,y2.1)) fun y5 =>some y5)
def En (n:Nat) (x:Bool×List (List (NdT)×Bool×Unit)×List (Sc1)×Bool×List (List UInt8)×Bool×pm1):Option (Bool×pm1) :=let a_1:=x.1
 let a_2:=x.2.1
 let a_3:=x.2.2.1
 let a_4:=x.2.2.2.1
 let a_5:=x.2.2.2.2.1
 let a_6:=x.2.2.2.2.2.1
 let yGl:=x.2.2.2.2.2.2.1
 let xJj:=x.2.2.2.2.2.2.2.1
 let xJk:=x.2.2.2.2.2.2.2.2.1
 let xDb:=x.2.2.2.2.2.2.2.2.2.1
 let xDc:=x.2.2.2.2.2.2.2.2.2.2.1
 let xJl:=x.2.2.2.2.2.2.2.2.2.2.2.1
 ob (lV n (((a_1,(a_2,(a_3,()))),(a_4,(a_5,(a_6,())))),((yGl,(xJj,(xJk,()))),(xDb,(xDc,(xJl,())))))) fun y13 =>some (y13,x.2.2.2.2.2.2)
def mV (n:Nat) (g0:List (pm0)×Int×Int×Bool×List (List (NdT)×Bool×Unit)×List (Sc1)×Bool×List (List UInt8)×Bool×Unit->Option (Int×pm1)) (x8:List (pm0)×Int×Int×pm1):Option (Int×pm1) :=let s_9:=x8.1
 let xBg:=x8.2.1
 let zVk:=x8.2.2.1
 br (decide (zVk<xBg)) (chk (inB zVk s_9.length) (let v18:(Bool×List (List (NdT)×Bool×Unit)×List (Sc1)×Unit)×Bool×List (List UInt8)×Bool×Unit:=aM (Ty.dflt aO) s_9 zVk
 ob (En n (v18.1.1,v18.1.2.1,v18.1.2.2.1,v18.2.1,v18.2.2.1,v18.2.2.2.1,x8.2.2.2)) fun y19 =>br y19.1 (some (zVk,y19.2)) (let v20:Int:=qEq .i64 (zVk+1)
 g0 (s_9,xBg,v20,y19.2)))) (some ((-1),x8.2.2.2))
def gK (n:Nat) (x:List (pm0)×pm1):Option (Int×pm1) :=let s_1:=x.1
 fix (mV n) n (s_1,(s_1.length:Int),0,x.2)
def eD (n:Nat) (x:List (pm0)×pm1):Option (Bool×pm1) :=ob (gK n (x)) fun y8 =>some ((decide (y8.1≥0)),y8.2)
def Pq (n:Nat) (g0:List (pm0)×List (pm0)×Int×Int×List (Bool)×Unit->Option (List (Bool))) (x2:List (pm0)×List (pm0)×Int×Int×List (Bool)×Unit):Option (List (Bool)) :=let l_3:=x2.1
 let Yu:=x2.2.1
 let oN:=x2.2.2.1
 let Sg:=x2.2.2.2.1
 let zYs:=x2.2.2.2.2.1
 br (decide (Sg<oN)) (chk (inB Sg Yu.length) (let v8:(Bool×List (List (NdT)×Bool×Unit)×List (Sc1)×Unit)×Bool×List (List UInt8)×Bool×Unit:=aM (Ty.dflt aO) Yu Sg
 chk ((decide (0<=Sg)&&decide (Sg<=(l_3.length:Int)))) (ob (eD n (l_3.take Sg.toNat,v8.1.1,v8.1.2.1,v8.1.2.2.1,v8.2.1,v8.2.2.1,v8.2.2.2.1,())) fun y9 =>chk ((inB Sg (zYs.length)&&decide (0+(zYs.length)<=zYs.length))) (chk (decide (0+Sg.toNat<zYs.length)) (let r10:List (Bool):=zYs.set (0+Sg.toNat) y9.1
 let v11:Int:=qEq .i64 (Sg+1)
 g0 (l_3,Yu,oN,v11,r10,())))))) (some zYs)
def uD (n:Nat) (x:List (pm0)):Option (List (Bool)) :=let l_0:=x
 chk ((decide (0<=(l_0.length:Int))&&(decide ((l_0.length:Int) = (l_0.length:Int))&&qBg ((l_0.length:Int).toNat * 1) room))) (let r1:List (Bool):=qAf (l_0.length:Int).toNat false
 fix (Pq n) n (l_0,l_0,(l_0.length:Int),0,r1,()))
def Lc (n:Nat) (g0:List (pm0)×Int×Unit->Option (Int)) (x2:List (pm0)×Int×Unit):Option (Int) :=let l_3:=x2.1
 let i_4:=x2.2.1
 br (decide (i_4≥0)) (chk (inB i_4 l_3.length) (let v5:(Bool×List (List (NdT)×Bool×Unit)×List (Sc1)×Unit)×Bool×List (List UInt8)×Bool×Unit:=aM (Ty.dflt aO) l_3 i_4
 ob (jB n v5) fun y6 =>br (decide ((y6.2.length:Int) > 0)) (some i_4) (let v7:Int:=qEq .i64 (i_4 - 1)
 g0 (l_3,v7,())))) (some (-1))
def yA (n:Nat) (x:List (pm0)×Int):Option (Int) :=let l_0:=x.1
 let j_1:=x.2
 br (decide (j_1 < 0)) (some (-1)) (br (decide (j_1>(l_0.length:Int))) (some (-1)) (let v1:Int:=qEq .i64 (j_1 - 1)
 fix (Lc n) n (l_0,v1,())))
def Dc (n:Nat) (x:Unit):Option (Bool) :=ob (sV n ([119,32,102],false)) fun y1 =>ob (sV n ([114,32,102],false)) fun y2 =>ob (uD n [(y1.1,(false,([],(false,())))),(y2.1,(false,([],(false,())))),((false,([],([],()))),(false,([[103]],(false,()))))]) fun y3 =>br ((y3.length:Int)==3) (chk (inB 0 y3.length) (let v4:Bool:=aM (Ty.dflt .bool) y3 0
 br (!v4) (chk (inB 1 y3.length) (let v5:Bool:=aM (Ty.dflt .bool) y3 1
 br v5 (chk (inB 2 y3.length) (let v6:Bool:=aM (Ty.dflt .bool) y3 2
 br (!v6) (ob (yA n ([(y1.1,(false,([],(false,())))),(y2.1,(false,([],(false,())))),((false,([],([],()))),(false,([[103]],(false,()))))],3)) fun y7 =>br (y7==0) (ob (yA n ([(y1.1,(false,([],(false,())))),(y2.1,(false,([],(false,())))),((false,([],([],()))),(false,([[103]],(false,()))))],0)) fun y8 =>some (y8==(-1))) (some false)) (some false))) (some false))) (some false))) (some false)
end Go.Dec
namespace Go.Dec
set_option linter.unusedVariables false
abbrev pt1:Type:=(Bool × List (List (NdT) × Bool × Unit) × List (Sc1) × Unit) × Bool × List (List UInt8) × Bool × Unit
abbrev pt2:Type:=List (List (NdT) × Bool × Unit) × List (Sc1) × Unit
abbrev pt3:Type:=Int × Bool × List (List (NdT) × Bool × Unit) × List (Sc1) × Bool × Bool × List (List (NdT) × Bool × Unit) × List (Sc1) × pt2
def Vt (n:Nat) (g0:List (NdT)×Int×List (NdT)×Unit->Option (List (NdT))) (x1:List (NdT)×Int×List (NdT)×Unit):Option (List (NdT)) :=let l_2:=x1.1
 let i_3:=x1.2.1
 let Dk:=x1.2.2.1
 br (decide (i_3<(l_2.length:Int))) (chk (inB i_3 l_2.length) (let v5:Int×List (Int)×Int×Int×Int×Int×Int×Unit:=aM (Ty.dflt aT) l_2 i_3
 ob (Nn n v5.2.1) fun y6 =>ob (Jp n y6) fun y7 =>chk (qBg ((Dk.length+([(v5.1,(y7,v5.2.2))]:List (NdT)).length) * 80) room) (let r8:List (NdT):=Dk++[(v5.1,(y7,v5.2.2))]
 let v9:Int:=qEq .i64 (i_3+1)
 g0 (l_2,v9,r8,())))) (some Dk)
def Jr (n:Nat) (x:List (NdT)):Option (List (NdT)) :=let l_0:=x
 fix (Vt n) n (l_0,0,[],())
def Tm (n:Nat) (x:Int×Int×Int×Unit):Option (Int×Int×Int×Unit) :=let a_0:=x
 some a_0
def Vu (n:Nat) (g0:List (List UInt8×Int×Unit)×Int×List (List UInt8×Int×Unit)×Unit->Option (List (List UInt8×Int×Unit))) (x1:List (List UInt8×Int×Unit)×Int×List (List UInt8×Int×Unit)×Unit):Option (List (List UInt8×Int×Unit)) :=let l_2:=x1.1
 let i_3:=x1.2.1
 let Dk:=x1.2.2.1
 br (decide (i_3<(l_2.length:Int))) (chk (inB i_3 l_2.length) (let v5:List UInt8×Int×Unit:=aM (Ty.dflt iL) l_2 i_3
 chk (qBg ((Dk.length+([v5]:List (List UInt8×Int×Unit)).length) * 24) room) (let v6:Int:=qEq .i64 (i_3+1)
 g0 (l_2,v6,Dk++[v5],())))) (some Dk)
def Js (n:Nat) (x:List (List UInt8×Int×Unit)):Option (List (List UInt8×Int×Unit)) :=let l_0:=x
 fix (Vu n) n (l_0,0,[],())
def zCf (n:Nat) (g1:Int×Bool×List (List (NdT)×Bool×Unit)×List (Sc1)×Bool×Bool×List (List (NdT)×Bool×Unit)×List (Sc1)×List (List (NdT)×Bool×Unit)×List (Sc1)×Unit->Option (Bool×pt2)) (x16:pt3):Option (Bool×pt2) :=let yQc:=x16.1
 let xDd:=x16.2.1
 let xGo:=x16.2.2.1
 let zVl:=x16.2.2.2.1
 let xDe:=x16.2.2.2.2.1
 let yMb:=x16.2.2.2.2.2.1
 let iE:=x16.2.2.2.2.2.2.1
 let wS:=x16.2.2.2.2.2.2.2.1
 let Km:=x16.2.2.2.2.2.2.2.2.1
 let mW:=x16.2.2.2.2.2.2.2.2.2.1
 br (decide (yQc<(zVl.length:Int))) (chk (inB yQc zVl.length) (let v27:((Int×Int×Int×Unit)×(Int×Int×Int×Unit)×Bool×Unit)×Int×List UInt8×List UInt8×Int×Int×Int×List (List UInt8×Int×Unit)×Bool×Bool×Unit:=aM (Ty.dflt aB) zVl yQc
 ob (Tm n v27.1.1) fun y28 =>ob (Tm n v27.1.2.1) fun y29 =>ob (Js n v27.2.2.2.2.2.2.2.1) fun y30 =>chk (qBg ((mW.length+([((y28,(y29,v27.1.2.2)),(v27.2.1,(v27.2.2.1,(v27.2.2.2.1,(v27.2.2.2.2.1,(v27.2.2.2.2.2.1,(v27.2.2.2.2.2.2.1,(y30,v27.2.2.2.2.2.2.2.2))))))))]:List (Sc1)).length) * 152) room) (let r31:List (Sc1):=mW++[((y28,(y29,v27.1.2.2)),(v27.2.1,(v27.2.2.1,(v27.2.2.2.1,(v27.2.2.2.2.1,(v27.2.2.2.2.2.1,(v27.2.2.2.2.2.2.1,(y30,v27.2.2.2.2.2.2.2.2))))))))]
 let v32:Int:=qEq .i64 (yQc+1)
 g1 (v32,xDd,xGo,zVl,xDe,yMb,iE,wS,Km,r31,())))) (some (yMb,(Km,(mW,()))))
def zCg (n:Nat) (g0:Int×Bool×List (List (NdT)×Bool×Unit)×List (Sc1)×Bool×Bool×List (List (NdT)×Bool×Unit)×List (Sc1)×List (List (NdT)×Bool×Unit)×List (Sc1)×Unit->Option (Bool×pt2)) (x1:pt3):Option (Bool×pt2) :=let i_2:=x1.1
 let xGp:=x1.2.1
 let zOl:=x1.2.2.1
 let xJm:=x1.2.2.2.1
 let xGq:=x1.2.2.2.2.1
 let yGl:=x1.2.2.2.2.2.1
 let yFp:=x1.2.2.2.2.2.2.1
 let xLh:=x1.2.2.2.2.2.2.2.1
 let vC:=x1.2.2.2.2.2.2.2.2.1
 let zVj:=x1.2.2.2.2.2.2.2.2.2.1
 br (decide (i_2<(zOl.length:Int))) (chk (inB i_2 zOl.length) (let v12:List (NdT)×Bool×Unit:=aM (Ty.dflt aU) zOl i_2
 ob (Jr n v12.1) fun y13 =>chk (inB i_2 zOl.length) (let v14:List (NdT)×Bool×Unit:=aM (Ty.dflt aU) zOl i_2
 chk (qBg ((vC.length+([(y13,v14.2)]:List (List (NdT)×Bool×Unit)).length) * 32) room) (let v15:Int:=qEq .i64 (i_2+1)
 g0 (v15,xGp,zOl,xJm,xGq,yGl,yFp,xLh,vC++[(y13,v14.2)],zVj,()))))) (fix (zCf n) n (0,x1.2))
def Tn (n:Nat) (x:Bool×pt2):Option (Bool×pt2) :=let x_0:=x
 fix (zCg n) n (0,x_0.1,x_0.2.1,x_0.2.2.1,false,x_0.1,[],[],[],[],())
def Fq (n:Nat) (x:pt1):Option (pt1) :=let g_0:=x
 ob (Tn n g_0.1) fun y1 =>some (y1,g_0.2)
def zS (n:Nat) (g0:List (List UInt8)×List UInt8×Bool×Int×List (List UInt8)×Unit->Option (List (List UInt8))) (x1:List (List UInt8)×List UInt8×Bool×Int×List (List UInt8)×Unit):Option (List (List UInt8)) :=let l_2:=x1.1
 let w_3:=x1.2.1
 let Bc:=x1.2.2.1
 let i_5:=x1.2.2.2.1
 let bM:=x1.2.2.2.2.1
 br (decide (i_5<(l_2.length:Int))) (br (!Bc) (chk (inB i_5 l_2.length) (let v7:List UInt8:=aM (Ty.dflt .str) l_2 i_5
 br (!Op.bytesLess v7 w_3) (chk (inB i_5 l_2.length) (let v8:List UInt8:=aM (Ty.dflt .str) l_2 i_5
 br (!(v8==w_3)) (chk (qBg ((bM.length+([w_3]:List (List UInt8)).length) * 16) room) (chk (inB i_5 l_2.length) (let v9:List UInt8:=aM (Ty.dflt .str) l_2 i_5
 chk (qBg (((bM++[w_3]).length+([v9]:List (List UInt8)).length) * 16) room) (let v10:Int:=qEq .i64 (i_5+1)
 g0 (l_2,w_3,true,v10,(bM++[w_3])++[v9],()))))) (chk (inB i_5 l_2.length) (let v11:List UInt8:=aM (Ty.dflt .str) l_2 i_5
 chk (qBg ((bM.length+([v11]:List (List UInt8)).length) * 16) room) (let v12:Int:=qEq .i64 (i_5+1)
 g0 (l_2,w_3,true,v12,bM++[v11],())))))) (chk (inB i_5 l_2.length) (let v13:List UInt8:=aM (Ty.dflt .str) l_2 i_5
 chk (qBg ((bM.length+([v13]:List (List UInt8)).length) * 16) room) (let v14:Int:=qEq .i64 (i_5+1)
 g0 (l_2,w_3,Bc,v14,bM++[v13],())))))) (chk (inB i_5 l_2.length) (let v15:List UInt8:=aM (Ty.dflt .str) l_2 i_5
 chk (qBg ((bM.length+([v15]:List (List UInt8)).length) * 16) room) (let v16:Int:=qEq .i64 (i_5+1)
 g0 (l_2,w_3,Bc,v16,bM++[v15],()))))) (br (!Bc) (chk (qBg ((bM.length+([w_3]:List (List UInt8)).length) * 16) room) (some (bM++[w_3]))) (some bM))
def yU (n:Nat) (x:List (List UInt8)×List UInt8):Option (List (List UInt8)) :=let l_0:=x.1
 let w_1:=x.2
 fix (zS n) n (l_0,w_1,(w_1==[]),0,[],())
def Vv (n:Nat) (g0:List (List UInt8)×List (List UInt8)×Int×Bool×List (List (NdT)×Bool×Unit)×List (Sc1)×Unit->Option (List (List UInt8)×List (List UInt8))) (x1:List (List UInt8)×List (List UInt8)×Int×Bool×pt2):Option (List (List UInt8)×List (List UInt8)) :=let r_2:=x1.1
 let w_3:=x1.2.1
 let i_4:=x1.2.2.1
 let Wz:=x1.2.2.2.2.2.1
 br (decide (i_4<(Wz.length:Int))) (chk (inB i_4 Wz.length) (let v8:((Int×Int×Int×Unit)×(Int×Int×Int×Unit)×Bool×Unit)×Int×List UInt8×List UInt8×Int×Int×Int×List (List UInt8×Int×Unit)×Bool×Bool×Unit:=aM (Ty.dflt aB) Wz i_4
 br (v8.2.1==114) (chk (inB i_4 Wz.length) (let v9:((Int×Int×Int×Unit)×(Int×Int×Int×Unit)×Bool×Unit)×Int×List UInt8×List UInt8×Int×Int×Int×List (List UInt8×Int×Unit)×Bool×Bool×Unit:=aM (Ty.dflt aB) Wz i_4
 ob (yU n (r_2,v9.2.2.1)) fun y10 =>let v11:Int:=qEq .i64 (i_4+1)
 g0 (y10,w_3,v11,x1.2.2.2))) (br (v8.2.1==119) (br (v8.2.1==119) (chk (inB i_4 Wz.length) (let v12:((Int×Int×Int×Unit)×(Int×Int×Int×Unit)×Bool×Unit)×Int×List UInt8×List UInt8×Int×Int×Int×List (List UInt8×Int×Unit)×Bool×Bool×Unit:=aM (Ty.dflt aB) Wz i_4
 ob (yU n (w_3,v12.2.2.1)) fun y13 =>let v14:Int:=qEq .i64 (i_4+1)
 g0 (r_2,y13,v14,x1.2.2.2))) (let v15:Int:=qEq .i64 (i_4+1)
 g0 (r_2,w_3,v15,x1.2.2.2))) (br (v8.2.1==115) (chk (inB i_4 Wz.length) (let v16:((Int×Int×Int×Unit)×(Int×Int×Int×Unit)×Bool×Unit)×Int×List UInt8×List UInt8×Int×Int×Int×List (List UInt8×Int×Unit)×Bool×Bool×Unit:=aM (Ty.dflt aB) Wz i_4
 ob (yU n (w_3,v16.2.2.1)) fun y17 =>let v18:Int:=qEq .i64 (i_4+1)
 g0 (r_2,y17,v18,x1.2.2.2))) (let v19:Int:=qEq .i64 (i_4+1)
 g0 (r_2,w_3,v19,x1.2.2.2)))))) (some (r_2,w_3))
def Jt (n:Nat) (x:Bool×pt2):Option (List (List UInt8)×List (List UInt8)) :=fix (Vv n) n ([],[],0,x)
def Vw (n:Nat) (g0:List (List UInt8)×List UInt8×Bool×Int×List (List UInt8)×Unit->Option (List (List UInt8))) (x1:List (List UInt8)×List UInt8×Bool×Int×List (List UInt8)×Unit):Option (List (List UInt8)) :=let l_2:=x1.1
 let w_3:=x1.2.1
 let Bc:=x1.2.2.1
 let i_5:=x1.2.2.2.1
 let bM:=x1.2.2.2.2.1
 br (decide (i_5<(l_2.length:Int))) (br (!Bc) (chk (inB i_5 l_2.length) (let v7:List UInt8:=aM (Ty.dflt .str) l_2 i_5
 br (!Op.bytesLess v7 w_3) (chk (inB i_5 l_2.length) (let v8:List UInt8:=aM (Ty.dflt .str) l_2 i_5
 br (!(v8==w_3)) (chk (qBg ((bM.length+([w_3]:List (List UInt8)).length) * 16) room) (chk (inB i_5 l_2.length) (let v9:List UInt8:=aM (Ty.dflt .str) l_2 i_5
 chk (qBg (((bM++[w_3]).length+([v9]:List (List UInt8)).length) * 16) room) (let v10:Int:=qEq .i64 (i_5+1)
 g0 (l_2,w_3,true,v10,(bM++[w_3])++[v9],()))))) (chk (inB i_5 l_2.length) (let v11:List UInt8:=aM (Ty.dflt .str) l_2 i_5
 chk (qBg ((bM.length+([v11]:List (List UInt8)).length) * 16) room) (let v12:Int:=qEq .i64 (i_5+1)
 g0 (l_2,w_3,true,v12,bM++[v11],())))))) (chk (inB i_5 l_2.length) (let v13:List UInt8:=aM (Ty.dflt .str) l_2 i_5
 chk (qBg ((bM.length+([v13]:List (List UInt8)).length) * 16) room) (let v14:Int:=qEq .i64 (i_5+1)
 g0 (l_2,w_3,Bc,v14,bM++[v13],())))))) (chk (inB i_5 l_2.length) (let v15:List UInt8:=aM (Ty.dflt .str) l_2 i_5
 chk (qBg ((bM.length+([v15]:List (List UInt8)).length) * 16) room) (let v16:Int:=qEq .i64 (i_5+1)
 g0 (l_2,w_3,Bc,v16,bM++[v15],()))))) (br (!Bc) (chk (qBg ((bM.length+([w_3]:List (List UInt8)).length) * 16) room) (some (bM++[w_3]))) (some bM))
def Ju (n:Nat) (x:List (List UInt8)×List UInt8):Option (List (List UInt8)) :=let l_0:=x.1
 let w_1:=x.2
 fix (Vw n) n (l_0,w_1,false,0,[],())
def Vx (n:Nat) (g0:List (List UInt8)×List (List UInt8)×Int×Bool×List (List (NdT)×Bool×Unit)×List (Sc1)×Bool×List (List UInt8)×Bool×Unit->Option (List (List UInt8)×List (List UInt8))) (x2:List (List UInt8)×List (List UInt8)×Int×Bool×List (List (NdT)×Bool×Unit)×List (Sc1)×Bool×List (List UInt8)×Bool×Unit):Option (List (List UInt8)×List (List UInt8)) :=let r_3:=x2.1
 let w_4:=x2.2.1
 let i_5:=x2.2.2.1
 let zYt:=x2.2.2.2.2.2.2.2.1
 br (decide (i_5<(zYt.length:Int))) (chk (inB i_5 zYt.length) (let v12:List UInt8:=aM (Ty.dflt .str) zYt i_5
 ob (Ju n (r_3,v12)) fun y13 =>let v14:Int:=qEq .i64 (i_5+1)
 g0 (y13,w_4,v14,x2.2.2.2))) (some (r_3,w_4))
def pE (n:Nat) (x:pt1):Option (List (List UInt8)×List (List UInt8)) :=let g_0:=x
 br g_0.2.2.2.1 (some ([],[])) (ob (Jt n g_0.1) fun y1 =>fix (Vx n) n (y1.1,y1.2,0,g_0.1.1,g_0.1.2.1,g_0.1.2.2.1,x.2))
def zCh (n:Nat) (g0:List (List UInt8)×List UInt8×Int×Unit->Option (Bool)) (x1:List (List UInt8)×List UInt8×Int×Unit):Option (Bool) :=let l_2:=x1.1
 let w_3:=x1.2.1
 let i_4:=x1.2.2.1
 br (decide (i_4<(l_2.length:Int))) (chk (inB i_4 l_2.length) (let v5:List UInt8:=aM (Ty.dflt .str) l_2 i_4
 br (v5==w_3) (some true) (let v6:Int:=qEq .i64 (i_4+1)
 g0 (l_2,w_3,v6,())))) (some false)
def Ma (n:Nat) (x:List (List UInt8)×List UInt8):Option (Bool) :=let l_0:=x.1
 let w_1:=x.2
 fix (zCh n) n (l_0,w_1,0,())
def Tp (n:Nat) (g0:List (List UInt8)×List (List UInt8)×Int×Unit->Option (Bool)) (x1:List (List UInt8)×List (List UInt8)×Int×Unit):Option (Bool) :=let a_2:=x1.1
 let b_3:=x1.2.1
 let i_4:=x1.2.2.1
 br (decide (i_4<(a_2.length:Int))) (chk (inB i_4 a_2.length) (let v5:List UInt8:=aM (Ty.dflt .str) a_2 i_4
 ob (Ma n (b_3,v5)) fun y6 =>br y6 (some true) (let v7:Int:=qEq .i64 (i_4+1)
 g0 (a_2,b_3,v7,())))) (some false)
def sW (n:Nat) (x:List (List UInt8)×List (List UInt8)):Option (Bool) :=let a_0:=x.1
 let b_1:=x.2
 fix (Tp n) n (a_0,b_1,0,())
def vK (n:Nat) (x:(pt1)×pt1):Option (Bool) :=let a_0:=x.1
 let b_1:=x.2
 ob (pE n a_0) fun y1 =>ob (pE n b_1) fun y2 =>ob (sW n (y1.2,y2.1)) fun y3 =>br y3 (some true) (ob (sW n (y1.2,y2.2)) fun y4 =>br y4 (some true) (ob (sW n (y1.1,y2.2)) fun y5 =>some y5))
def Oc (n:Nat) (g0:List (pt1)×Int×List (Bool)×Unit->Option (List (Bool))) (g1:List (pt1)×Int×Int×List (Bool)×Unit->Option (List (Bool))) (x6:List (pt1)×Int×Int×List (Bool)×Unit):Option (List (Bool)) :=let l_7:=x6.1
 let j_8:=x6.2.1
 let i_9:=x6.2.2.1
 let vC:=x6.2.2.2.1
 br (decide (i_9<j_8)) (chk ((inB j_8 (vC.length)&&decide (0+(vC.length)<=vC.length))) (chk (decide (0+j_8.toNat<vC.length)) (br (vC.getD (0+j_8.toNat) (Ty.dflt .bool)) (chk ((inB j_8 (vC.length)&&decide (0+(vC.length)<=vC.length))) (chk (decide (0+j_8.toNat<vC.length)) (let r11:List (Bool):=vC.set (0+j_8.toNat) true
 let v12:Int:=qEq .i64 (i_9+1)
 g1 (l_7,j_8,v12,r11,())))) (chk (inB i_9 l_7.length) (let v13:(Bool×pt2)×Bool×List (List UInt8)×Bool×Unit:=aM (Ty.dflt aO) l_7 i_9
 chk (inB j_8 l_7.length) (let v14:(Bool×pt2)×Bool×List (List UInt8)×Bool×Unit:=aM (Ty.dflt aO) l_7 j_8
 ob (vK n (v13,v14)) fun y15 =>chk ((inB j_8 (vC.length)&&decide (0+(vC.length)<=vC.length))) (chk (decide (0+j_8.toNat<vC.length)) (let r16:List (Bool):=vC.set (0+j_8.toNat) y15
 let v17:Int:=qEq .i64 (i_9+1)
 g1 (l_7,j_8,v17,r16,()))))))))) (let v18:Int:=qEq .i64 (j_8+1)
 g0 (l_7,v18,vC,()))
def Od (n:Nat) (g0:List (pt1)×Int×List (Bool)×Unit->Option (List (Bool))) (x2:List (pt1)×Int×List (Bool)×Unit):Option (List (Bool)) :=let l_3:=x2.1
 let j_4:=x2.2.1
 let Dj:=x2.2.2.1
 br (decide (j_4<(l_3.length:Int))) (fix (Oc n g0) n (l_3,j_4,0,Dj,())) (some Dj)
def Ab (n:Nat) (x:List (pt1)):Option (List (Bool)) :=let l_0:=x
 chk ((decide (0<=(l_0.length:Int))&&(decide ((l_0.length:Int) = (l_0.length:Int))&&qBg ((l_0.length:Int).toNat * 1) room))) (let r1:List (Bool):=qAf (l_0.length:Int).toNat false
 fix (Od n) n (l_0,0,r1,()))
def Zd (n:Nat) (g0:List (Bool)×List (Bool)×Int×Unit->Option (Bool)) (x1:List (Bool)×List (Bool)×Int×Unit):Option (Bool) :=let a_2:=x1.1
 let b_3:=x1.2.1
 let i_4:=x1.2.2.1
 br (decide (i_4<(a_2.length:Int))) (chk (inB i_4 a_2.length) (let v5:Bool:=aM (Ty.dflt .bool) a_2 i_4
 chk (inB i_4 b_3.length) (let v6:Bool:=aM (Ty.dflt .bool) b_3 i_4
 br (v5 != v6) (some false) (let v7:Int:=qEq .i64 (i_4+1)
 g0 (a_2,b_3,v7,()))))) (some true)
def Hw (n:Nat) (x:List (Bool)×List (Bool)):Option (Bool) :=let a_0:=x.1
 let b_1:=x.2
 br ((a_0.length:Int) != (b_1.length:Int)) (some false) (fix (Zd n) n (a_0,b_1,0,()))
def Im (n:Nat) (g0:List (pt1)×Int×Unit->Option (Int)) (x2:List (pt1)×Int×Unit):Option (Int) :=let l_3:=x2.1
 let i_4:=x2.2.1
 br (decide (i_4≥0)) (chk (inB i_4 l_3.length) (let v5:(Bool×pt2)×Bool×List (List UInt8)×Bool×Unit:=aM (Ty.dflt aO) l_3 i_4
 ob (pE n v5) fun y6 =>br (decide ((y6.2.length:Int) > 0)) (some i_4) (let v7:Int:=qEq .i64 (i_4 - 1)
 g0 (l_3,v7,())))) (some (-1))
def Jv (n:Nat) (x:List (pt1)×Int):Option (Int) :=let l_0:=x.1
 let j_1:=x.2
 br (decide (j_1 < 0)) (some (-1)) (br (decide (j_1>(l_0.length:Int))) (some (-1)) (let v1:Int:=qEq .i64 (j_1 - 1)
 fix (Im n) n (l_0,v1,())))
def Mc (n:Nat) (g1:Int×List (pt1)×Int×List (pt1)×Unit->Option (Bool)) (g2:Int×List (pt1)×Int×Int×List (pt1)×Unit->Option (Bool)) (x21:Int×List (pt1)×Int×Int×List (pt1)×Unit):Option (Bool) :=let xGr:=x21.1
 let zSg:=x21.2.1
 let Vb:=x21.2.2.1
 let Vd:=x21.2.2.2.1
 let mW:=x21.2.2.2.2.1
 br (decide (Vd<(zSg.length:Int))) (chk (inB Vb zSg.length) (let v27:(Bool×pt2)×Bool×List (List UInt8)×Bool×Unit:=aM (Ty.dflt aO) zSg Vb
 chk (inB Vd zSg.length) (let v28:(Bool×pt2)×Bool×List (List UInt8)×Bool×Unit:=aM (Ty.dflt aO) zSg Vd
 ob (lV n (v27,v28)) fun y29 =>chk ((inB Vb (mW.length)&&decide (0+(mW.length)<=mW.length))) (chk (decide (0+Vb.toNat<mW.length)) (chk ((inB Vd (mW.length)&&decide (0+(mW.length)<=mW.length))) (chk (decide (0+Vd.toNat<mW.length)) (ob (vK n ((((mW.getD (0+Vb.toNat) (Ty.dflt aO)).1.1,((mW.getD (0+Vb.toNat) (Ty.dflt aO)).1.2.1,((mW.getD (0+Vb.toNat) (Ty.dflt aO)).1.2.2.1,()))),((mW.getD (0+Vb.toNat) (Ty.dflt aO)).2.1,((mW.getD (0+Vb.toNat) (Ty.dflt aO)).2.2.1,((mW.getD (0+Vb.toNat) (Ty.dflt aO)).2.2.2.1,())))),(((mW.getD (0+Vd.toNat) (Ty.dflt aO)).1.1,((mW.getD (0+Vd.toNat) (Ty.dflt aO)).1.2.1,((mW.getD (0+Vd.toNat) (Ty.dflt aO)).1.2.2.1,()))),((mW.getD (0+Vd.toNat) (Ty.dflt aO)).2.1,((mW.getD (0+Vd.toNat) (Ty.dflt aO)).2.2.1,((mW.getD (0+Vd.toNat) (Ty.dflt aO)).2.2.2.1,())))))) fun y30 =>br (y29 != y30) (some false) (let v31:Int:=qEq .i64 (Vd+1)
 g2 (xGr,zSg,Vb,v31,mW,()))))))))) (let v32:Int:=qEq .i64 (Vb+1)
 g1 (xGr,zSg,v32,mW,()))
def Md (n:Nat) (g1:Int×List (pt1)×Int×List (pt1)×Unit->Option (Bool)) (x16:Int×List (pt1)×Int×List (pt1)×Unit):Option (Bool) :=let yYo:=x16.1
 let yQd:=x16.2.1
 let xGs:=x16.2.2.1
 let yQe:=x16.2.2.2.1
 br (decide (xGs<(yQd.length:Int))) (fix (Mc n g1) n (yYo,yQd,xGs,0,yQe,())) (ob (uD n yQd) fun y33 =>ob (Ab n yQe) fun y34 =>ob (Hw n (y33,y34)) fun y35 =>br y35 (ob (yA n (yQd,yYo)) fun y36 =>ob (Jv n (yQe,yYo)) fun y37 =>some (y36==y37)) (some false))
def Me (n:Nat) (g0:Int×List (pt1)×Int×List (pt1)×Unit->Option (Bool)) (x8:Int×List (pt1)×Int×List (pt1)×Unit):Option (Bool) :=let j_9:=x8.1
 let yGm:=x8.2.1
 let yQf:=x8.2.2.1
 let zN:=x8.2.2.2.1
 br (decide (yQf<(yGm.length:Int))) (chk (inB yQf yGm.length) (let v13:(Bool×pt2)×Bool×List (List UInt8)×Bool×Unit:=aM (Ty.dflt aO) yGm yQf
 ob (Fq n v13) fun y14 =>chk (qBg ((zN.length+([y14]:List (pt1)).length) * 96) room) (let v15:Int:=qEq .i64 (yQf+1)
 g0 (j_9,yGm,v15,zN++[y14],())))) (fix (Md n) n (j_9,yGm,0,zN,()))
def Ac (n:Nat) (x5:Int×List (pt1)×Unit):Option (Bool) :=let j_6:=x5.1
 let g_7:=x5.2.1
 fix (Me n) n (j_6,g_7,0,[],())
def Oe (n:Nat) (x:List (List UInt8×List (List UInt8)×Bool×Unit)×Int):Option (Bool) :=let l_0:=x.1
 let j_1:=x.2
 ob (Tj n l_0) fun y1 =>br (!y1.2) (ob (Dc n ()) fun y2 =>some y2) (ob (Dc n ()) fun y3 =>br (!y3) (ob (Dc n ()) fun y4 =>some y4) (jn (Ac n) (j_1,y1.1,())))
end Go.Dec
namespace Go.Proofs
open Go.Shelf
def Tryz.keysA_ren:Go.Shelf.Ren:=⟨fun | 7=>43 | 10=>59 | n=>n,fun | 23=>70 | 26=>9 | 3=>3 | 28=>108 | 0=>0 | 27=>107 | 33=>100 | 4=>4 | n=>n,fun | n=>n⟩
theorem Tryz.keysA:Go.Proofs.SlLaysZ.n7 Tryz.prog Tryz.keysA_ren:={
 mixed:=by kernel_rfl
 f7:=⟨Tryz.f43.name,by decide,Tryz.func43.trans (congrArg some (by kernel_rfl))⟩
 f10:=⟨Tryz.f59.name,by decide,Tryz.func59.trans (congrArg some (by kernel_rfl))⟩
 t0:=Tryz.underlying0
 a0:=Tryz.isAgg0
 z0:=Tryz.sizeOf0
 v0:=Tryz.zeroValue0
 t4:=Tryz.underlying4
 a4:=Tryz.isAgg4
 z4:=Tryz.sizeOf4
 v4:=Tryz.zeroValue4
 t23:=Tryz.underlying70
 a23:=Tryz.isAgg70
 z23:=Tryz.sizeOf70
 v23:=Tryz.zeroValue70
 t26:=Tryz.underlying9
 a26:=Tryz.isAgg9
 z26:=Tryz.sizeOf9
 v26:=Tryz.zeroValue9
 t27:=Tryz.underlying107
 a27:=Tryz.isAgg107
 z27:=Tryz.sizeOf107
 v27:=Tryz.zeroValue107
 t28:=Tryz.underlying108
 a28:=Tryz.isAgg108
 z28:=Tryz.sizeOf108
 v28:=Tryz.zeroValue108
 t33:=Tryz.underlying100
 a33:=Tryz.isAgg100
 z33:=Tryz.sizeOf100
 v33:=Tryz.zeroValue100 }
def Tryz.sortedA_ren:Go.Shelf.Ren:=⟨fun | 6=>42 | 8=>58 | 9=>26 | 11=>87 | 13=>45 | 12=>44 | 23=>69 | 24=>70 | 14=>60 | 15=>61 | 16=>62 | 17=>63 | 18=>64 | 19=>65 | 20=>66 | 21=>67 | 22=>68 | 25=>88 | 26=>89 | 27=>90 | 28=>91 | 29=>92 | 30=>93 | 31=>114 | n=>n,fun | 26=>9 | 28=>108 | 24=>32 | 0=>0 | 3=>3 | 37=>112 | 48=>145 | 50=>121 | 4=>4 | 40=>139 | 39=>138 | 45=>120 | 5=>5 | 9=>9 | 51=>157 | 55=>161 | 57=>184 | 58=>185 | 33=>100 | n=>n,fun | n=>n⟩
theorem Tryz.sortedA:Go.Proofs.SlLaysZ.n6 Tryz.prog Tryz.sortedA_ren:={
 mixed:=by kernel_rfl
 f6:=⟨Tryz.f42.name,by decide,Tryz.func42.trans (congrArg some (by kernel_rfl))⟩
 f8:=⟨Tryz.f58.name,by decide,Tryz.func58.trans (congrArg some (by kernel_rfl))⟩
 f11:=⟨Tryz.f87.name,by decide,Tryz.func87.trans (congrArg some (by kernel_rfl))⟩
 t0:=Tryz.underlying0
 a0:=Tryz.isAgg0
 z0:=Tryz.sizeOf0
 v0:=Tryz.zeroValue0
 t24:=Tryz.underlying32
 a24:=Tryz.isAgg32
 z24:=Tryz.sizeOf32
 v24:=Tryz.zeroValue32
 t26:=Tryz.underlying9
 a26:=Tryz.isAgg9
 z26:=Tryz.sizeOf9
 v26:=Tryz.zeroValue9
 t28:=Tryz.underlying108
 a28:=Tryz.isAgg108
 z28:=Tryz.sizeOf108
 v28:=Tryz.zeroValue108
 i26:=by kernel_rfl }
def Tryz.sortA_ren:Go.Shelf.Ren:=⟨fun | 6=>26 | 8=>45 | 9=>44 | 19=>69 | 20=>70 | 21=>60 | 22=>61 | 23=>62 | 24=>63 | 25=>64 | 26=>65 | 27=>66 | 28=>67 | 29=>68 | 36=>88 | 31=>89 | 32=>90 | 37=>91 | 38=>92 | 39=>93 | 41=>114 | n=>n,fun | 27=>32 | 29=>9 | 3=>3 | 32=>112 | 26=>32 | 0=>0 | 44=>145 | 46=>121 | 4=>4 | 36=>139 | 35=>138 | 41=>120 | 5=>5 | 9=>9 | 53=>157 | 57=>161 | 63=>184 | 64=>185 | n=>n,fun | n=>n⟩
theorem Tryz.sortA:Go.Proofs.SlLaysM.n6 Tryz.prog Tryz.sortA_ren:={
 mixed:=by kernel_rfl
 f6:=⟨Tryz.f26.name,by decide,Tryz.func26.trans (congrArg some (by kernel_rfl))⟩
 f8:=Tryz.func45.trans (congrArg some (by kernel_rfl))
 f9:=⟨Tryz.f44.name,by decide,Tryz.func44.trans (congrArg some (by kernel_rfl))⟩
 f19:=Tryz.func69.trans (congrArg some (by kernel_rfl))
 f20:=Tryz.func70.trans (congrArg some (by kernel_rfl))
 f21:=⟨Tryz.f60.name,by decide,Tryz.func60.trans (congrArg some (by kernel_rfl))⟩
 f22:=⟨Tryz.f61.name,by decide,Tryz.func61.trans (congrArg some (by kernel_rfl))⟩
 f23:=⟨Tryz.f62.name,by decide,Tryz.func62.trans (congrArg some (by kernel_rfl))⟩
 f24:=⟨Tryz.f63.name,by decide,Tryz.func63.trans (congrArg some (by kernel_rfl))⟩
 f25:=⟨Tryz.f64.name,by decide,Tryz.func64.trans (congrArg some (by kernel_rfl))⟩
 f26:=⟨Tryz.f65.name,by decide,Tryz.func65.trans (congrArg some (by kernel_rfl))⟩
 f27:=⟨Tryz.f66.name,by decide,Tryz.func66.trans (congrArg some (by kernel_rfl))⟩
 f28:=⟨Tryz.f67.name,by decide,Tryz.func67.trans (congrArg some (by kernel_rfl))⟩
 f29:=⟨Tryz.f68.name,by decide,Tryz.func68.trans (congrArg some (by kernel_rfl))⟩
 f31:=Tryz.func89.trans (congrArg some (by kernel_rfl))
 f32:=Tryz.func90.trans (congrArg some (by kernel_rfl))
 f36:=⟨Tryz.f88.name,by decide,Tryz.func88.trans (congrArg some (by kernel_rfl))⟩
 f37:=⟨Tryz.f91.name,by decide,Tryz.func91.trans (congrArg some (by kernel_rfl))⟩
 f38:=⟨Tryz.f92.name,by decide,Tryz.func92.trans (congrArg some (by kernel_rfl))⟩
 f39:=⟨Tryz.f93.name,by decide,Tryz.func93.trans (congrArg some (by kernel_rfl))⟩
 f41:=⟨Tryz.f114.name,by decide,Tryz.func114.trans (congrArg some (by kernel_rfl))⟩
 t0:=Tryz.underlying0
 a0:=Tryz.isAgg0
 z0:=Tryz.sizeOf0
 v0:=Tryz.zeroValue0
 t3:=Tryz.underlying3
 a3:=Tryz.isAgg3
 z3:=Tryz.sizeOf3
 v3:=Tryz.zeroValue3
 t4:=Tryz.underlying4
 a4:=Tryz.isAgg4
 z4:=Tryz.sizeOf4
 v4:=Tryz.zeroValue4
 t5:=Tryz.underlying5
 a5:=Tryz.isAgg5
 z5:=Tryz.sizeOf5
 v5:=Tryz.zeroValue5
 t9:=Tryz.underlying9
 a9:=Tryz.isAgg9
 z9:=Tryz.sizeOf9
 v9:=Tryz.zeroValue9
 t26:=Tryz.underlying32
 a26:=Tryz.isAgg32
 z26:=Tryz.sizeOf32
 v26:=Tryz.zeroValue32
 t27:=Tryz.underlying32
 a27:=Tryz.isAgg32
 z27:=Tryz.sizeOf32
 v27:=Tryz.zeroValue32
 t29:=Tryz.underlying9
 a29:=Tryz.isAgg9
 z29:=Tryz.sizeOf9
 v29:=Tryz.zeroValue9
 t32:=Tryz.underlying112
 a32:=Tryz.isAgg112
 z32:=Tryz.sizeOf112
 v32:=Tryz.zeroValue112
 t35:=Tryz.underlying138
 a35:=Tryz.isAgg138
 z35:=Tryz.sizeOf138
 v35:=Tryz.zeroValue138
 t36:=Tryz.underlying139
 a36:=Tryz.isAgg139
 z36:=Tryz.sizeOf139
 v36:=Tryz.zeroValue139
 t41:=Tryz.underlying120
 a41:=Tryz.isAgg120
 z41:=Tryz.sizeOf120
 v41:=Tryz.zeroValue120
 t44:=Tryz.underlying145
 a44:=Tryz.isAgg145
 z44:=Tryz.sizeOf145
 v44:=Tryz.zeroValue145
 t46:=Tryz.underlying121
 a46:=Tryz.isAgg121
 z46:=Tryz.sizeOf121
 v46:=Tryz.zeroValue121
 t53:=Tryz.underlying157
 a53:=Tryz.isAgg157
 z53:=Tryz.sizeOf157
 v53:=Tryz.zeroValue157
 t57:=Tryz.underlying161
 a57:=Tryz.isAgg161
 z57:=Tryz.sizeOf161
 v57:=Tryz.zeroValue161
 t63:=Tryz.underlying184
 a63:=Tryz.isAgg184
 z63:=Tryz.sizeOf184
 v63:=Tryz.zeroValue184
 t64:=Tryz.underlying185
 a64:=Tryz.isAgg185
 z64:=Tryz.sizeOf185
 v64:=Tryz.zeroValue185 }
end Go.Proofs
