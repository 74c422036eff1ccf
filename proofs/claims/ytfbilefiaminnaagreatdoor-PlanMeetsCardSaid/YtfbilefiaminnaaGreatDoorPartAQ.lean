/- Part of a proof over this seat: a library of my own, and what it says of this seat. No statement is proved here. -/
import Derived.Test.YtfbilefiaminnaaGreatDoorPartAP
import Derived.Test.YtfbilefiaminnaaGreatDoorPartAK
import Derived.Lib.SlicesCompact
namespace Go.Dec
def zAa (a:List UInt8):List (List UInt8)->List (List UInt8) | []=>[a] | b :: r=>bif decide (a<=b) then a :: b :: r else b :: zAa a r
def vY:List (List UInt8)->List (List UInt8) | []=>[] | a :: r=>zAa a (vY r)
def Wq:List (List UInt8)->Bool | []=>true | a :: r=>!r.contains a&&Wq r
def kW (_n:Nat) (x:List (List UInt8×Int)×Unit):Option (List (List UInt8)×List (List UInt8×Int)×Unit) :=chk (Wq (x.1.map Prod.fst)&&(Nat.ble x.1.length 1000000&&x.1.all fun e=>Nat.ble e.1.length 1000000)) (some (vY (x.1.map Prod.fst),x.1,()))
def kD(_n:Nat)(x:List (List (List UInt8))):Option (List (List UInt8)):=
 match x with
 |[a,b]=>chk (Nat.ble (a.length+b.length) 1000000) (some (a++b))
 |_=>none
end Go.Dec
namespace Go.Dec
set_option linter.unusedVariables false
abbrev Fi0:Type:=((Int × Int × Int × Unit) × (Int × Int × Int × Unit) × Bool × Unit) × Int × List UInt8 × List UInt8 × Int × Int × Int × List (List UInt8 × Int × Unit) × Bool × Bool × Unit
def Bf (n:Nat) (x:List (List UInt8×Int)×Unit):Option (List (List UInt8×Int)×Unit) :=let xEf:=x.1
 some (xEf,())
def Qv (n:Nat) (g0:List (Fi0)×Int×Int×List (List UInt8×Int)×List (List UInt8×Int)×Unit->Option (List (List UInt8)×List (List UInt8))) (x1:List (Fi0)×Int×Int×List (List UInt8×Int)×List (List UInt8×Int)×Unit):Option (List (List UInt8)×List (List UInt8)) :=let zEe:=x1.1
 let zKo:=x1.2.1
 let Zd:=x1.2.2.1
 let zNm:=x1.2.2.2.1
 let zHy:=x1.2.2.2.2.1
 br (decide (Zd<zKo)) (chk (inB Zd zEe.length) (let v7:((Int×Int×Int×Unit)×(Int×Int×Int×Unit)×Bool×Unit)×Int×List UInt8×List UInt8×Int×Int×Int×List (List UInt8×Int×Unit)×Bool×Bool×Unit:=aV (Ty.dflt aC) zEe Zd
 br (v7.2.2.1==[]) (let v8:Int:=IntKind.wrap .i64 (Zd+1)
 g0 (zEe,zKo,v8,zNm,zHy,())) (br (v7.2.1==114) (let v9:Int:=jK .str 0 zNm v7.2.2.1
 let v10:Int:=IntKind.wrap .i64 (v9+1)
 let v11:Int:=IntKind.wrap .i64 (Zd+1)
 g0 (zEe,zKo,v11,wK .str zNm v7.2.2.1 v10,zHy,())) (br (v7.2.1==119) (let v12:Int:=jK .str 0 zHy v7.2.2.1
 let v13:Int:=IntKind.wrap .i64 (v12+1)
 let v14:Int:=IntKind.wrap .i64 (Zd+1)
 g0 (zEe,zKo,v14,zNm,wK .str zHy v7.2.2.1 v13,())) (br (v7.2.1==115) (let v15:Int:=jK .str 0 zHy v7.2.2.1
 let v16:Int:=IntKind.wrap .i64 (v15+1)
 let v17:Int:=IntKind.wrap .i64 (Zd+1)
 g0 (zEe,zKo,v17,zNm,wK .str zHy v7.2.2.1 v16,())) (let v18:Int:=IntKind.wrap .i64 (Zd+1)
 g0 (zEe,zKo,v18,zNm,zHy,()))))))) (ob (Bf n (zNm,())) fun y19 =>ob (kW n (y19.1,())) fun y20 =>ob (Bf n (zHy,())) fun y21 =>ob (kW n (y21.1,())) fun y22 =>some (y20.1,y22.1))
def Lv (n:Nat) (x:Bool×List (List (Int×List (Int)×Int×Int×Int×Int×Int×Unit)×Bool×Unit)×List (Fi0)×Unit):Option (List (List UInt8)×List (List UInt8)) :=let x_0:=x
 fix (Qv n) n (x_0.2.2.1,(x_0.2.2.1.length:Int),0,[],[],())
end Go.Dec
namespace Go.Dec
abbrev Ws:Ty:=.pair oO (.pair .bool (.pair (.slice .str) (.pair .bool .unit)))
def gK (n:Nat) (x:Ws.den):Option (List (List UInt8)×List (List UInt8)) :=br x.2.2.2.1 (some ([],[])) (ob (Lv n x.1) fun y=>chk (Nat.ble (y.1.length+x.2.2.1.length) 1000000) (some (Go.Lib.compact (vY (y.1++x.2.2.1)),y.2)))
end Go.Dec
namespace Go.Dec
set_option linter.unusedVariables false
abbrev pm0:Type:=(Bool × List (List (NdT) × Bool × Unit) × List (((Int × Int × Int × Unit) × (Int × Int × Int × Unit) × Bool × Unit) × Int × List UInt8 × List UInt8 × Int × Int × Int × List (List UInt8 × Int × Unit) × Bool × Bool × Unit) × Unit) × Bool × List (List UInt8) × Bool × Unit
abbrev pm1:Type:=Bool × List (List (NdT) × Bool × Unit) × List (((Int × Int × Int × Unit) × (Int × Int × Int × Unit) × Bool × Unit) × Int × List UInt8 × List UInt8 × Int × Int × Int × List (List UInt8 × Int × Unit) × Bool × Bool × Unit) × Bool × List (List UInt8) × Bool × Unit
abbrev pm2:Type:=List UInt8 × List (List UInt8) × Bool × Unit
abbrev pm3:Type:=((Int × Int × Int × Unit) × (Int × Int × Int × Unit) × Bool × Unit) × Int × List UInt8 × List UInt8 × Int × Int × Int × List (List UInt8 × Int × Unit) × Bool × Bool × Unit
def Ze (n:Nat) (g0:List (pm2)×Int×List (pm0)×Unit->Option (List (pm0)×Bool)) (g1:List (pm2)×Int×Int×List (pm0)×Unit->Option (List (pm0)×Bool)) (x7:List (pm2)×Int×Int×List (pm0)×Unit):Option (List (pm0)×Bool) :=let l_8:=x7.1
 let i_9:=x7.2.1
 let yKl:=x7.2.2.1
 let yKm:=x7.2.2.2.1
 chk (inB i_9 l_8.length) (let v12:List UInt8×List (List UInt8)×Bool×Unit:=aV (Ty.dflt rD) l_8 i_9
 br (decide (yKl<(v12.2.1.length:Int))) (chk (inB i_9 l_8.length) (let v13:List UInt8×List (List UInt8)×Bool×Unit:=aV (Ty.dflt rD) l_8 i_9
 chk (inB yKl v13.2.1.length) (let v14:List UInt8:=aV (Ty.dflt .str) v13.2.1 yKl
 br (decide ((v14.length:Int) > 60)) (some ([],false)) (let v15:Int:=IntKind.wrap .i64 (yKl+1)
 g1 (l_8,i_9,v15,yKm,()))))) (chk (inB i_9 l_8.length) (let v16:List UInt8×List (List UInt8)×Bool×Unit:=aV (Ty.dflt rD) l_8 i_9
 ob (sK n (v16.1,false)) fun y17 =>chk (inB i_9 l_8.length) (let v18:List UInt8×List (List UInt8)×Bool×Unit:=aV (Ty.dflt rD) l_8 i_9
 chk (inB i_9 l_8.length) (let v19:List UInt8×List (List UInt8)×Bool×Unit:=aV (Ty.dflt rD) l_8 i_9
 chk (Nat.ble ((yKm.length+([(y17.1,(false,(v18.2.1,v19.2.2)))]:List (pm0)).length) * 96) room) (let r20:List (pm0):=yKm++[(y17.1,(false,(v18.2.1,v19.2.2)))]
 let v21:Int:=IntKind.wrap .i64 (i_9+1)
 g0 (l_8,v21,r20,())))))))
def Lx (n:Nat) (g0:List (pm2)×Int×List (pm0)×Unit->Option (List (pm0)×Bool)) (x1:List (pm2)×Int×List (pm0)×Unit):Option (List (pm0)×Bool) :=let l_2:=x1.1
 let i_3:=x1.2.1
 let Zz:=x1.2.2.1
 br (decide (i_3<(l_2.length:Int))) (chk (inB i_3 l_2.length) (let v5:List UInt8×List (List UInt8)×Bool×Unit:=aV (Ty.dflt rD) l_2 i_3
 br (decide ((v5.1.length:Int) > 100)) (some ([],false)) (chk (inB i_3 l_2.length) (let v6:List UInt8×List (List UInt8)×Bool×Unit:=aV (Ty.dflt rD) l_2 i_3
 br (decide ((v6.2.1.length:Int) > 5)) (some ([],false)) (fix (Ze n g0) n (l_2,i_3,0,Zz,())))))) (some (Zz,(decide ((l_2.length:Int)<=10))))
def Qw (n:Nat) (x:List (pm2)):Option (List (pm0)×Bool) :=let l_0:=x
 fix (Lx n) n (l_0,0,[],())
def Df (n:Nat) (g0:List (List UInt8)×List UInt8×Int×Int×Unit->Option (Int)) (x1:List (List UInt8)×List UInt8×Int×Int×Unit):Option (Int) :=let s_2:=x1.1
 let v_3:=x1.2.1
 let yAn:=x1.2.2.1
 let Vz:=x1.2.2.2.1
 br (decide (Vz<yAn)) (chk (inB Vz s_2.length) (let v6:List UInt8:=aV (Ty.dflt .str) s_2 Vz
 br (v_3==v6) (some Vz) (let v7:Int:=IntKind.wrap .i64 (Vz+1)
 g0 (s_2,v_3,yAn,v7,())))) (some (-1))
def qR (n:Nat) (x:List (List UInt8)×List UInt8):Option (Int) :=let s_0:=x.1
 let v_1:=x.2
 fix (Df n) n (s_0,v_1,(s_0.length:Int),0,())
def rT (n:Nat) (x:List (List UInt8)×List UInt8):Option (Bool) :=let s_0:=x.1
 let v_1:=x.2
 ob (qR n (s_0,v_1)) fun y1 =>some (decide (y1≥0))
def pF (n:Nat) (x:List UInt8×List (List UInt8)×Unit):Option (Bool×List (List UInt8)×Unit) :=let x_1:=x.1
 let b2:=x.2.1
 ob (rT n (b2,x_1)) fun y3 =>some (y3,b2,())
def kE (n:Nat) (g0:List (List UInt8)×Int×Int×List (List UInt8)×Unit->Option (Int×List (List UInt8)×Unit)) (x3:List (List UInt8)×Int×Int×List (List UInt8)×Unit):Option (Int×List (List UInt8)×Unit) :=let s_4:=x3.1
 let zNl:=x3.2.1
 let yBk:=x3.2.2.1
 let b7:=x3.2.2.2.1
 br (decide (yBk<zNl)) (chk (inB yBk s_4.length) (let v8:List UInt8:=aV (Ty.dflt .str) s_4 yBk
 ob (pF n (v8,b7,())) fun y9 =>br y9.1 (some (yBk,y9.2.1,())) (let v10:Int:=IntKind.wrap .i64 (yBk+1)
 g0 (s_4,zNl,v10,y9.2.1,())))) (some ((-1),b7,()))
def dR (n:Nat) (x:List (List UInt8)×List (List UInt8)×Unit):Option (Int×List (List UInt8)×Unit) :=let s_1:=x.1
 let b2:=x.2.1
 fix (kE n) n (s_1,(s_1.length:Int),0,b2,())
def eX (n:Nat) (x:List (List UInt8)×List (List UInt8)×Unit):Option (Bool×List (List UInt8)×Unit) :=let s_1:=x.1
 let b2:=x.2.1
 ob (dR n (s_1,b2,())) fun y3 =>some ((decide (y3.1≥0)),y3.2.1,())
def nV (n:Nat) (x:List (List UInt8)×List (List UInt8)):Option (Bool) :=let a_0:=x.1
 let b_1:=x.2
 ob (eX n (a_0,b_1,())) fun y1 =>some y1.1
def rU (n:Nat) (x:(pm0)×pm0):Option (Bool) :=let a_0:=x.1
 let b_1:=x.2
 ob (gK n a_0) fun y1 =>ob (gK n b_1) fun y2 =>ob (kD n [y1.1,y1.2]) fun y3 =>ob (nV n (y3,y2.2)) fun y4 =>br y4 (some true) (ob (nV n (y1.2,y2.1)) fun y5 =>some y5)
def Ma (n:Nat) (x:Bool×List (List (NdT)×Bool×Unit)×List (pm3)×Bool×List (List UInt8)×Bool×pm1):Option (Bool×pm1) :=let a_1:=x.1
 let a_2:=x.2.1
 let a_3:=x.2.2.1
 let a_4:=x.2.2.2.1
 let a_5:=x.2.2.2.2.1
 let a_6:=x.2.2.2.2.2.1
 let yZz:=x.2.2.2.2.2.2.1
 let xCl:=x.2.2.2.2.2.2.2.1
 let xCm:=x.2.2.2.2.2.2.2.2.1
 let yWv:=x.2.2.2.2.2.2.2.2.2.1
 let yWw:=x.2.2.2.2.2.2.2.2.2.2.1
 let xCn:=x.2.2.2.2.2.2.2.2.2.2.2.1
 ob (rU n (((a_1,(a_2,(a_3,()))),(a_4,(a_5,(a_6,())))),((yZz,(xCl,(xCm,()))),(yWv,(yWw,(xCn,())))))) fun y13 =>some (y13,x.2.2.2.2.2.2)
def xG (n:Nat) (g0:List (pm0)×Int×Int×Bool×List (List (NdT)×Bool×Unit)×List (pm3)×Bool×List (List UInt8)×Bool×Unit->Option (Int×pm1)) (x8:List (pm0)×Int×Int×pm1):Option (Int×pm1) :=let s_9:=x8.1
 let yUw:=x8.2.1
 let zQa:=x8.2.2.1
 br (decide (zQa<yUw)) (chk (inB zQa s_9.length) (let v18:(Bool×List (List (NdT)×Bool×Unit)×List (pm3)×Unit)×Bool×List (List UInt8)×Bool×Unit:=aV (Ty.dflt dP) s_9 zQa
 ob (Ma n (v18.1.1,v18.1.2.1,v18.1.2.2.1,v18.2.1,v18.2.2.1,v18.2.2.2.1,x8.2.2.2)) fun y19 =>br y19.1 (some (zQa,y19.2)) (let v20:Int:=IntKind.wrap .i64 (zQa+1)
 g0 (s_9,yUw,v20,y19.2)))) (some ((-1),x8.2.2.2))
def jU (n:Nat) (x:List (pm0)×pm1):Option (Int×pm1) :=let s_1:=x.1
 fix (xG n) n (s_1,(s_1.length:Int),0,x.2)
def iR (n:Nat) (x:List (pm0)×pm1):Option (Bool×pm1) :=ob (jU n (x)) fun y8 =>some ((decide (y8.1≥0)),y8.2)
def zFy (n:Nat) (g0:List (pm0)×List (pm0)×Int×Int×List (Bool)×Unit->Option (List (Bool))) (x2:List (pm0)×List (pm0)×Int×Int×List (Bool)×Unit):Option (List (Bool)) :=let l_3:=x2.1
 let Wd:=x2.2.1
 let oG:=x2.2.2.1
 let Qe:=x2.2.2.2.1
 let zTj:=x2.2.2.2.2.1
 br (decide (Qe<oG)) (chk (inB Qe Wd.length) (let v8:(Bool×List (List (NdT)×Bool×Unit)×List (pm3)×Unit)×Bool×List (List UInt8)×Bool×Unit:=aV (Ty.dflt dP) Wd Qe
 chk ((decide (0<=Qe)&&decide (Qe<=(l_3.length:Int)))) (ob (iR n (l_3.take Qe.toNat,v8.1.1,v8.1.2.1,v8.1.2.2.1,v8.2.1,v8.2.2.1,v8.2.2.2.1,())) fun y9 =>chk ((inB Qe (zTj.length)&&decide (0+(zTj.length)<=zTj.length))) (chk (decide (0+Qe.toNat<zTj.length)) (let r10:List (Bool):=zTj.set (0+Qe.toNat) y9.1
 let v11:Int:=IntKind.wrap .i64 (Qe+1)
 g0 (l_3,Wd,oG,v11,r10,())))))) (some zTj)
def Sk (n:Nat) (x:List (pm0)):Option (List (Bool)) :=let l_0:=x
 chk ((decide (0<=(l_0.length:Int))&&(decide ((l_0.length:Int) = (l_0.length:Int))&&Nat.ble ((l_0.length:Int).toNat * 1) room))) (let r1:List (Bool):=List.replicate (l_0.length:Int).toNat false
 fix (zFy n) n (l_0,l_0,(l_0.length:Int),0,r1,()))
def zNn (n:Nat) (g0:List (pm0)×Int×Unit->Option (Int)) (x2:List (pm0)×Int×Unit):Option (Int) :=let l_3:=x2.1
 let i_4:=x2.2.1
 br (decide (i_4≥0)) (chk (inB i_4 l_3.length) (let v5:(Bool×List (List (NdT)×Bool×Unit)×List (pm3)×Unit)×Bool×List (List UInt8)×Bool×Unit:=aV (Ty.dflt dP) l_3 i_4
 ob (gK n v5) fun y6 =>br (decide ((y6.2.length:Int) > 0)) (some i_4) (let v7:Int:=IntKind.wrap .i64 (i_4 - 1)
 g0 (l_3,v7,())))) (some (-1))
def Uh (n:Nat) (x:List (pm0)×Int):Option (Int) :=let l_0:=x.1
 let j_1:=x.2
 br (decide (j_1 < 0)) (some (-1)) (br (decide (j_1>(l_0.length:Int))) (some (-1)) (let v1:Int:=IntKind.wrap .i64 (j_1 - 1)
 fix (zNn n) n (l_0,v1,())))
def Bv (n:Nat) (x:Unit):Option (Bool) :=ob (sK n ([119,32,102],false)) fun y1 =>ob (sK n ([114,32,102],false)) fun y2 =>ob (Sk n [(y1.1,(false,([],(false,())))),(y2.1,(false,([],(false,())))),((false,([],([],()))),(false,([[103]],(false,()))))]) fun y3 =>br ((y3.length:Int)==3) (chk (inB 0 y3.length) (let v4:Bool:=aV (Ty.dflt .bool) y3 0
 br (!v4) (chk (inB 1 y3.length) (let v5:Bool:=aV (Ty.dflt .bool) y3 1
 br v5 (chk (inB 2 y3.length) (let v6:Bool:=aV (Ty.dflt .bool) y3 2
 br (!v6) (ob (Uh n ([(y1.1,(false,([],(false,())))),(y2.1,(false,([],(false,())))),((false,([],([],()))),(false,([[103]],(false,()))))],3)) fun y7 =>br (y7==0) (ob (Uh n ([(y1.1,(false,([],(false,())))),(y2.1,(false,([],(false,())))),((false,([],([],()))),(false,([[103]],(false,()))))],0)) fun y8 =>some (y8==(-1))) (some false)) (some false))) (some false))) (some false))) (some false)
def Mc (n:Nat) (x:(pm2)×pm2):Option (Bool) :=let a_0:=x.1
 let b_1:=x.2
 ob (Qw n [a_0,b_1]) fun y1 =>br (!y1.2) (ob (Bv n ()) fun y2 =>some y2) (ob (Bv n ()) fun y3 =>br (!y3) (ob (Bv n ()) fun y4 =>some y4) (chk (inB 0 y1.1.length) (let v5:(Bool×List (List (NdT)×Bool×Unit)×List (pm3)×Unit)×Bool×List (List UInt8)×Bool×Unit:=aV (Ty.dflt dP) y1.1 0
 chk (inB 1 y1.1.length) (let v6:(Bool×List (List (NdT)×Bool×Unit)×List (pm3)×Unit)×Bool×List (List UInt8)×Bool×Unit:=aV (Ty.dflt dP) y1.1 1
 ob (rU n (v5,v6)) fun y7 =>chk (inB 0 y1.1.length) (let v8:(Bool×List (List (NdT)×Bool×Unit)×List (pm3)×Unit)×Bool×List (List UInt8)×Bool×Unit:=aV (Ty.dflt dP) y1.1 0
 ob (gK n v8) fun y9 =>chk (inB 1 y1.1.length) (let v10:(Bool×List (List (NdT)×Bool×Unit)×List (pm3)×Unit)×Bool×List (List UInt8)×Bool×Unit:=aV (Ty.dflt dP) y1.1 1
 ob (gK n v10) fun y11 =>chk (inB 1 y1.1.length) (let v12:(Bool×List (List (NdT)×Bool×Unit)×List (pm3)×Unit)×Bool×List (List UInt8)×Bool×Unit:=aV (Ty.dflt dP) y1.1 1
 chk (inB 0 y1.1.length) (let v13:(Bool×List (List (NdT)×Bool×Unit)×List (pm3)×Unit)×Bool×List (List UInt8)×Bool×Unit:=aV (Ty.dflt dP) y1.1 0
 ob (rU n (v12,v13)) fun y14 =>br (y7==y14) (br (!y7) (br (!y7) (some true) (br (!a_0.2.2.1) (some (!b_1.2.2.1)) (some false))) (let v15:Int:=IntKind.wrap .i64 ((y9.2.length:Int)+(y11.2.length:Int))
 br (decide (v15 > 0)) (br (!y7) (some true) (br (!a_0.2.2.1) (some (!b_1.2.2.1)) (some false))) (some false))) (some false)))))))))
end Go.Dec
