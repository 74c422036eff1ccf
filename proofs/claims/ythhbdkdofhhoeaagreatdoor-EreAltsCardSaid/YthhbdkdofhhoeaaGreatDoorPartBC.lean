/- Part of a proof over this seat: a library of my own, and what it says of this seat. No statement is proved here. -/
import Derived.Test.YthhbdkdofhhoeaaGreatDoorPartAL
import Derived.Test.YthhbdkdofhhoeaaGreatDoorPartAW
import Derived.Test.YthhbdkdofhhoeaaGreatDoorPartAQ
namespace Go.Dec
set_option linter.unusedVariables false
abbrev Er0:Type:=List UInt8 × Int × Int × Int × Int × List (NdT) × List (Int × Int × List (Int) × List (Int) × Unit) × Unit
abbrev Er2:Type:=Int × Int × List (Int) × List (NdT) × Unit
abbrev Er3:Type:=Int × Int × List (NdT) × Unit
abbrev Er5:Type:=Int × List (Int) × Int × Int × Int × Int × Int × Unit
abbrev Er7:Type:=List UInt8 × Int × Int × Value × Er3
abbrev Er8:Type:=Int × List UInt8 × Int × Int × Value × Er2
abbrev Er9:Type:=List UInt8 × Int × Int × Er3
def kP (n:Nat) (x:Er7):Option (Bool×Er7) :=let s1:=x.1
 let at2:=x.2.1
 br (decide (at2<(s1.length:Int))) (chk (inB at2 s1.length) (let v8:Int:=((bF 0 s1 at2).toNat:Int)
 ob (strings_IndexByte n ([42,43,63,123],v8)) fun y9 =>some ((decide (y9≥0)),x))) (some (false,x))
def bQ(n:Nat)(x:Er9):Option (Bool × Er9):=match kP n (x.1,x.2.1,x.2.2.1,Value.nilFunc,x.2.2.2) with|some y=>some (y.1,y.2.1,y.2.2.1,y.2.2.2.1,y.2.2.2.2.2)|none=>none
def oV (n:Nat) (x:Int×Int×Er7):Option (Bool×Er7) :=let e_1:=x.1
 let yEc:=x.2.1
 let s3:=x.2.2.1
 let at4:=x.2.2.2.1
 let yAo:=x.2.2.2.2.1
 let yAp:=x.2.2.2.2.2.1
 let yEd:=x.2.2.2.2.2.2.2.2.1
 some (false,s3,at4,yAo,yAp,e_1,yEc,yEd,())
def aN(n:Nat)(x:Int × Int × Er9):Option (Bool × Er9):=match oV n (x.1,x.2.1,x.2.2.1,x.2.2.2.1,x.2.2.2.2.1,Value.nilFunc,x.2.2.2.2.2) with|some y=>some (y.1,y.2.1,y.2.2.1,y.2.2.2.1,y.2.2.2.2.2)|none=>none
def fJ (n:Nat) (x:Int×List (Int)×Int×Int×Int×Int×Int×Er7):Option (Int×Er7) :=let n_1:=x.1
 let n_2:=x.2.1
 let n_3:=x.2.2.1
 let n_4:=x.2.2.2.1
 let n_5:=x.2.2.2.2.1
 let n_6:=x.2.2.2.2.2.1
 let n_7:=x.2.2.2.2.2.2.1
 let s8:=x.2.2.2.2.2.2.2.1
 let at9:=x.2.2.2.2.2.2.2.2.1
 let zXy:=x.2.2.2.2.2.2.2.2.2.1
 let zXz:=x.2.2.2.2.2.2.2.2.2.2.1
 let e12:=x.2.2.2.2.2.2.2.2.2.2.2.1
 let zYa:=x.2.2.2.2.2.2.2.2.2.2.2.2.1
 let zWs:=x.2.2.2.2.2.2.2.2.2.2.2.2.2.1
 chk (Nat.ble ((zWs.length+([(n_1,(n_2,(n_3,(n_4,(n_5,(n_6,(n_7,())))))))]:List (NdT)).length) * 80) room) (let r15:List (NdT):=zWs++[(n_1,(n_2,(n_3,(n_4,(n_5,(n_6,(n_7,())))))))]
 let v16:Int:=((r15.length:Nat):Int)
 let v17:Int:=IntKind.wrap .i64 (v16 - 1)
 some (v17,s8,at9,zXy,zXz,e12,zYa,r15,()))
def bJ(n:Nat)(x:Int × List (Int) × Int × Int × Int × Int × Int × Er9):Option (Int × Er9):=match fJ n (x.1,x.2.1,x.2.2.1,x.2.2.2.1,x.2.2.2.2.1,x.2.2.2.2.2.1,x.2.2.2.2.2.2.1,x.2.2.2.2.2.2.2.1,x.2.2.2.2.2.2.2.2.1,x.2.2.2.2.2.2.2.2.2.1,Value.nilFunc,x.2.2.2.2.2.2.2.2.2.2) with|some y=>some (y.1,y.2.1,y.2.2.1,y.2.2.2.1,y.2.2.2.2.2)|none=>none
def uX (n:Nat) (x:List UInt8):Option (Int) :=let s_0:=x
 ob (wF n s_0) fun y1 =>br (!(!y1.2)) (some (-1)) (br (decide ((s_0.length:Int) > 3)) (some (-1)) (chk (inB 0 s_0.length) (let v2:Int:=((bF 0 s_0 0).toNat:Int)
 br (decide (v2 < 48)) (some (-1)) (chk (inB 0 s_0.length) (let v3:Int:=((bF 0 s_0 0).toNat:Int)
 br (decide (v3 > 57)) (some (-1)) (some y1.1))))))
def Ez(n:Nat)(x:List UInt8):Option (Int × Int × Bool):=
 let s_0:List UInt8:=x
 ob (strings_Cut n (s_0,[44])) λy1 =>
 ob (uX n y1.1) λy2 =>
 br y1.2.2 (
  ob (uX n y1.2.1) λy3 =>
  br (y2==(-1)) (
   some (0,0,false)) (
   br y1.2.2 (
    br (y3==(-1)) (
     br (!(y1.2.1==[])) (
      some (0,0,false)) (
      br (decide (y2>255)) (
       some (0,0,false)) (
       br (decide (y3>255)) (
        some (0,0,false)) (
        br (y3 != (-1)) (
         br (decide (y3<(if 1>y2 then 1 else y2))) (
          some (0,0,false)) (
          some (y2,y3,true))) (
         some (y2,y3,true)))))) (
     br (decide (y2>255)) (
      some (0,0,false)) (
      br (decide (y3>255)) (
       some (0,0,false)) (
       br (y3 != (-1)) (
        br (decide (y3<(if 1>y2 then 1 else y2))) (
         some (0,0,false)) (
         some (y2,y3,true))) (
        some (y2,y3,true)))))) (
    br (decide (y2>255)) (
     some (0,0,false)) (
     br (decide (y3>255)) (
      some (0,0,false)) (
      br (y3 != (-1)) (
       br (decide (y3<(if 1>y2 then 1 else y2))) (
        some (0,0,false)) (
        some (y2,y3,true))) (
       some (y2,y3,true))))))) (
  br (y2==(-1)) (
   some (0,0,false)) (
   br y1.2.2 (
    br (y2==(-1)) (
     br (!(y1.2.1==[])) (
      some (0,0,false)) (
      br (decide (y2>255)) (
       some (0,0,false)) (
       br (decide (y2>255)) (
        some (0,0,false)) (
        br (y2 != (-1)) (
         br (decide (y2<(if 1>y2 then 1 else y2))) (
          some (0,0,false)) (
          some (y2,y2,true))) (
         some (y2,y2,true)))))) (
     br (decide (y2>255)) (
      some (0,0,false)) (
      br (decide (y2>255)) (
       some (0,0,false)) (
       br (y2 != (-1)) (
        br (decide (y2<(if 1>y2 then 1 else y2))) (
         some (0,0,false)) (
         some (y2,y2,true))) (
        some (y2,y2,true)))))) (
    br (decide (y2>255)) (
     some (0,0,false)) (
     br (decide (y2>255)) (
      some (0,0,false)) (
      br (y2 != (-1)) (
       br (decide (y2<(if 1>y2 then 1 else y2))) (
        some (0,0,false)) (
        some (y2,y2,true))) (
       some (y2,y2,true)))))))
def fB (n:Nat) (x:Int×Er0):Option (Bool×Er0) :=let Sk:=x.1
 let s2:=x.2.1
 let at3:=x.2.2.1
 let zIc:=x.2.2.2.1
 let e5:=x.2.2.2.2.1
 let zId:=x.2.2.2.2.2.1
 let zUy:=x.2.2.2.2.2.2.1
 let aJ:=x.2.2.2.2.2.2.2.1
 ob (bQ n (s2,at3,zIc,e5,zId,zUy,())) fun y9 =>br (!y9.1) (chk (Nat.ble 1 aJ.length) (chk (Nat.ble 1 ((aJ.take (aJ.length - 1)).length+1)) (chk (Nat.ble 1 ((aJ.take (aJ.length - 1)).length+1)) (chk (decide (((aJ.take (aJ.length - 1)).length+1) - 1 = (aJ.take (aJ.length - 1)).length)) (chk (Nat.ble (((aJ.getD (aJ.length - 1) (0,0,[],[],())).2.2.2.1.length+([Sk]:List (Int)).length) * 8) room) (let r10:List (Int):=(aJ.getD (aJ.length - 1) (0,0,[],[],())).2.2.2.1++[Sk]
 chk (decide (((aJ.take (aJ.length - 1)).length+1) - 1 = (aJ.take (aJ.length - 1)).length)) (some (true,y9.2.1,y9.2.2.1,y9.2.2.2.1,y9.2.2.2.2.1,y9.2.2.2.2.2.1,y9.2.2.2.2.2.2.1,(aJ.take (aJ.length - 1))++[((aJ.getD (aJ.length - 1) (0,0,[],[],())).1,(aJ.getD (aJ.length - 1) (0,0,[],[],())).2.1,(aJ.getD (aJ.length - 1) (0,0,[],[],())).2.2.1,r10,())],())))))))) (let v11:Int:=IntKind.wrap .i64 (y9.2.2.1+1)
 chk (inB at3 y9.2.1.length) (let v12:Int:=((bF 0 y9.2.1 at3).toNat:Int)
 br (v12==43) (ob (bJ n (6,[0,0,0,0],Sk,0,1,(-1),0,y9.2.1,v11,y9.2.2.2)) fun y13 =>ob (bQ n (y13.2)) fun y14 =>br y14.1 (ob (aN n (43,y14.2.2.1,y14.2)) fun y15 =>some (y15.1,y15.2.1,y15.2.2.1,y15.2.2.2.1,y15.2.2.2.2.1,y15.2.2.2.2.2.1,y15.2.2.2.2.2.2.1,aJ,())) (chk (Nat.ble 1 aJ.length) (chk (Nat.ble 1 ((aJ.take (aJ.length - 1)).length+1)) (chk (Nat.ble 1 ((aJ.take (aJ.length - 1)).length+1)) (chk (decide (((aJ.take (aJ.length - 1)).length+1) - 1 = (aJ.take (aJ.length - 1)).length)) (chk (Nat.ble (((aJ.getD (aJ.length - 1) (0,0,[],[],())).2.2.2.1.length+([y13.1]:List (Int)).length) * 8) room) (let r16:List (Int):=(aJ.getD (aJ.length - 1) (0,0,[],[],())).2.2.2.1++[y13.1]
 chk (decide (((aJ.take (aJ.length - 1)).length+1) - 1 = (aJ.take (aJ.length - 1)).length)) (some (true,y14.2.1,y14.2.2.1,y14.2.2.2.1,y14.2.2.2.2.1,y14.2.2.2.2.2.1,y14.2.2.2.2.2.2.1,(aJ.take (aJ.length - 1))++[((aJ.getD (aJ.length - 1) (0,0,[],[],())).1,(aJ.getD (aJ.length - 1) (0,0,[],[],())).2.1,(aJ.getD (aJ.length - 1) (0,0,[],[],())).2.2.1,r16,())],()))))))))) (br (v12==63) (ob (bJ n (6,[0,0,0,0],Sk,0,0,1,0,y9.2.1,v11,y9.2.2.2)) fun y17 =>ob (bQ n (y17.2)) fun y18 =>br y18.1 (ob (aN n (43,y18.2.2.1,y18.2)) fun y19 =>some (y19.1,y19.2.1,y19.2.2.1,y19.2.2.2.1,y19.2.2.2.2.1,y19.2.2.2.2.2.1,y19.2.2.2.2.2.2.1,aJ,())) (chk (Nat.ble 1 aJ.length) (chk (Nat.ble 1 ((aJ.take (aJ.length - 1)).length+1)) (chk (Nat.ble 1 ((aJ.take (aJ.length - 1)).length+1)) (chk (decide (((aJ.take (aJ.length - 1)).length+1) - 1 = (aJ.take (aJ.length - 1)).length)) (chk (Nat.ble (((aJ.getD (aJ.length - 1) (0,0,[],[],())).2.2.2.1.length+([y17.1]:List (Int)).length) * 8) room) (let r20:List (Int):=(aJ.getD (aJ.length - 1) (0,0,[],[],())).2.2.2.1++[y17.1]
 chk (decide (((aJ.take (aJ.length - 1)).length+1) - 1 = (aJ.take (aJ.length - 1)).length)) (some (true,y18.2.1,y18.2.2.1,y18.2.2.2.1,y18.2.2.2.2.1,y18.2.2.2.2.2.1,y18.2.2.2.2.2.2.1,(aJ.take (aJ.length - 1))++[((aJ.getD (aJ.length - 1) (0,0,[],[],())).1,(aJ.getD (aJ.length - 1) (0,0,[],[],())).2.1,(aJ.getD (aJ.length - 1) (0,0,[],[],())).2.2.1,r20,())],()))))))))) (br (v12==123) (chk ((decide (0<=v11)&&decide (v11<=(y9.2.1.length:Int)))) (ob (strings_Cut n (y9.2.1.drop v11.toNat,[125])) fun y21 =>ob (Ez n y21.1) fun y22 =>br (!y21.2.2) (ob (aN n (43,at3,y9.2.1,v11,y9.2.2.2)) fun y23 =>some (y23.1,y23.2.1,y23.2.2.1,y23.2.2.2.1,y23.2.2.2.2.1,y23.2.2.2.2.2.1,y23.2.2.2.2.2.2.1,aJ,())) (br (!y22.2.2) (ob (aN n (43,at3,y9.2.1,v11,y9.2.2.2)) fun y24 =>some (y24.1,y24.2.1,y24.2.2.1,y24.2.2.2.1,y24.2.2.2.2.1,y24.2.2.2.2.2.1,y24.2.2.2.2.2.2.1,aJ,())) (let v25:Int:=IntKind.wrap .i64 ((y21.1.length:Int)+1)
 let v26:Int:=IntKind.wrap .i64 (v11+v25)
 ob (bJ n (6,[0,0,0,0],Sk,0,y22.1,y22.2.1,0,y9.2.1,v26,y9.2.2.2)) fun y27 =>ob (bQ n (y27.2)) fun y28 =>br y28.1 (ob (aN n (43,y28.2.2.1,y28.2)) fun y29 =>some (y29.1,y29.2.1,y29.2.2.1,y29.2.2.2.1,y29.2.2.2.2.1,y29.2.2.2.2.2.1,y29.2.2.2.2.2.2.1,aJ,())) (chk (Nat.ble 1 aJ.length) (chk (Nat.ble 1 ((aJ.take (aJ.length - 1)).length+1)) (chk (Nat.ble 1 ((aJ.take (aJ.length - 1)).length+1)) (chk (decide (((aJ.take (aJ.length - 1)).length+1) - 1 = (aJ.take (aJ.length - 1)).length)) (chk (Nat.ble (((aJ.getD (aJ.length - 1) (0,0,[],[],())).2.2.2.1.length+([y27.1]:List (Int)).length) * 8) room) (let r30:List (Int):=(aJ.getD (aJ.length - 1) (0,0,[],[],())).2.2.2.1++[y27.1]
 chk (decide (((aJ.take (aJ.length - 1)).length+1) - 1 = (aJ.take (aJ.length - 1)).length)) (some (true,y28.2.1,y28.2.2.1,y28.2.2.2.1,y28.2.2.2.2.1,y28.2.2.2.2.2.1,y28.2.2.2.2.2.2.1,(aJ.take (aJ.length - 1))++[((aJ.getD (aJ.length - 1) (0,0,[],[],())).1,(aJ.getD (aJ.length - 1) (0,0,[],[],())).2.1,(aJ.getD (aJ.length - 1) (0,0,[],[],())).2.2.1,r30,())],())))))))))))) (ob (bJ n (6,[0,0,0,0],Sk,0,0,(-1),0,y9.2.1,v11,y9.2.2.2)) fun y31 =>ob (bQ n (y31.2)) fun y32 =>br y32.1 (ob (aN n (43,y32.2.2.1,y32.2)) fun y33 =>some (y33.1,y33.2.1,y33.2.2.1,y33.2.2.2.1,y33.2.2.2.2.1,y33.2.2.2.2.2.1,y33.2.2.2.2.2.2.1,aJ,())) (chk (Nat.ble 1 aJ.length) (chk (Nat.ble 1 ((aJ.take (aJ.length - 1)).length+1)) (chk (Nat.ble 1 ((aJ.take (aJ.length - 1)).length+1)) (chk (decide (((aJ.take (aJ.length - 1)).length+1) - 1 = (aJ.take (aJ.length - 1)).length)) (chk (Nat.ble (((aJ.getD (aJ.length - 1) (0,0,[],[],())).2.2.2.1.length+([y31.1]:List (Int)).length) * 8) room) (let r34:List (Int):=(aJ.getD (aJ.length - 1) (0,0,[],[],())).2.2.2.1++[y31.1]
 chk (decide (((aJ.take (aJ.length - 1)).length+1) - 1 = (aJ.take (aJ.length - 1)).length)) (some (true,y32.2.1,y32.2.2.1,y32.2.2.2.1,y32.2.2.2.2.1,y32.2.2.2.2.2.1,y32.2.2.2.2.2.2.1,(aJ.take (aJ.length - 1))++[((aJ.getD (aJ.length - 1) (0,0,[],[],())).1,(aJ.getD (aJ.length - 1) (0,0,[],[],())).2.1,(aJ.getD (aJ.length - 1) (0,0,[],[],())).2.2.1,r34,())],())))))))))))))
def iN (n:Nat) (x:Er0):Option (Bool×Er0) :=let s1:=x.1
 let at2:=x.2.1
 let jF:=x.2.2.1
 let e4:=x.2.2.2.1
 let jS:=x.2.2.2.2.1
 let aW:=x.2.2.2.2.2.1
 let aX:=x.2.2.2.2.2.2.1
 chk (inB at2 s1.length) (let v8:Int:=((bF 0 s1 at2).toNat:Int)
 br (v8==36) (let v9:Int:=IntKind.wrap .i64 (at2+1)
 ob (bQ n (s1,v9,jF,e4,jS,aW,())) fun y10 =>br y10.1 (ob (aN n (43,y10.2.2.1,y10.2)) fun y11 =>some (y11.1,y11.2.1,y11.2.2.1,y11.2.2.2.1,y11.2.2.2.2.1,y11.2.2.2.2.2.1,y11.2.2.2.2.2.2.1,aX,())) (ob (bJ n (3,[0,0,0,0],0,0,0,0,0,y10.2)) fun y12 =>ob (fB n (y12.1,y12.2.1,y12.2.2.1,y12.2.2.2.1,y12.2.2.2.2.1,y12.2.2.2.2.2.1,y12.2.2.2.2.2.2.1,aX,())) fun y13 =>some (y13))) (let v14:Int:=IntKind.wrap .i64 (at2+1)
 ob (bQ n (s1,v14,jF,e4,jS,aW,())) fun y15 =>br y15.1 (ob (aN n (43,y15.2.2.1,y15.2)) fun y16 =>some (y16.1,y16.2.1,y16.2.2.1,y16.2.2.2.1,y16.2.2.2.2.1,y16.2.2.2.2.2.1,y16.2.2.2.2.2.2.1,aX,())) (ob (bJ n (2,[0,0,0,0],0,0,0,0,0,y15.2)) fun y17 =>ob (fB n (y17.1,y17.2.1,y17.2.2.1,y17.2.2.2.1,y17.2.2.2.2.1,y17.2.2.2.2.2.1,y17.2.2.2.2.2.2.1,aX,())) fun y18 =>some (y18))))
def iB (n:Nat) (x:Er0):Option (Bool×Er0) :=let s1:=x.1
 let at2:=x.2.1
 let jF:=x.2.2.1
 let e4:=x.2.2.2.1
 let jS:=x.2.2.2.2.1
 let aW:=x.2.2.2.2.2.1
 let aX:=x.2.2.2.2.2.2.1
 ob (aN n (43,at2,s1,at2,jF,e4,jS,aW,())) fun y8 =>some (y8.1,y8.2.1,y8.2.2.1,y8.2.2.2.1,y8.2.2.2.2.1,y8.2.2.2.2.2.1,y8.2.2.2.2.2.2.1,aX,())
def dX (n:Nat) (x:List (Int)×Er0):Option (Bool×Er0) :=let s_1:=x.1
 let s2:=x.2.1
 let at3:=x.2.2.1
 let zIc:=x.2.2.2.1
 let e5:=x.2.2.2.2.1
 let zId:=x.2.2.2.2.2.1
 let zUy:=x.2.2.2.2.2.2.1
 let aJ:=x.2.2.2.2.2.2.2.1
 ob (bJ n (1,s_1,0,0,0,0,0,s2,at3,zIc,e5,zId,zUy,())) fun y9 =>ob (fB n (y9.1,y9.2.1,y9.2.2.1,y9.2.2.2.1,y9.2.2.2.2.1,y9.2.2.2.2.2.1,y9.2.2.2.2.2.2.1,aJ,())) fun y10 =>some (y10)
def nC (n:Nat) (x:Er0):Option (Bool×Er0) :=let s1:=x.1
 let at2:=x.2.1
 let v8:Int:=IntKind.wrap .i64 (at2+1)
 ob (Dx n ([0,0,0,0])) fun y9 =>ob (dX n (y9,s1,v8,x.2.2)) fun y10 =>some (y10)
def lQ (n:Nat) (x:Er0):Option (Bool×Er0) :=let s1:=x.1
 let at2:=x.2.1
 let jF:=x.2.2.1
 let e4:=x.2.2.2.1
 let jS:=x.2.2.2.2.1
 let aW:=x.2.2.2.2.2.1
 let aX:=x.2.2.2.2.2.2.1
 chk ((decide (0<=at2)&&decide (at2<=(s1.length:Int)))) (ob (pQ n (s1.drop at2.toNat)) fun y8 =>br (y8.2.2 != 0) (ob (aN n (y8.2.2,at2,s1,at2,jF,e4,jS,aW,())) fun y9 =>some (y9.1,y9.2.1,y9.2.2.1,y9.2.2.2.1,y9.2.2.2.2.1,y9.2.2.2.2.2.1,y9.2.2.2.2.2.2.1,aX,())) (let v10:Int:=IntKind.wrap .i64 (at2+y8.2.1)
 ob (dX n (y8.1,s1,v10,x.2.2)) fun y11 =>some (y11)))
def jG (n:Nat) (x:Er0):Option (Bool×Er0) :=let s1:=x.1
 let at2:=x.2.1
 let jF:=x.2.2.1
 let e4:=x.2.2.2.1
 let jS:=x.2.2.2.2.1
 let aW:=x.2.2.2.2.2.1
 let aX:=x.2.2.2.2.2.2.1
 let v8:Int:=IntKind.wrap .i64 (at2+1)
 br (v8==(s1.length:Int)) (ob (aN n (40,at2,s1,at2,jF,e4,jS,aW,())) fun y9 =>some (y9.1,y9.2.1,y9.2.2.1,y9.2.2.2.1,y9.2.2.2.2.1,y9.2.2.2.2.2.1,y9.2.2.2.2.2.2.1,aX,())) (let v10:Int:=IntKind.wrap .i64 (at2+1)
 chk (inB v10 s1.length) (let v11:Int:=((bF 0 s1 v10).toNat:Int)
 let v12:Int:=IntKind.wrap .i64 (at2+2)
 br (v11==110) (ob (rQ n [10]) fun y13 =>ob (dX n (y13,s1,v12,x.2.2)) fun y14 =>some (y14)) (ob (strings_IndexByte n ([46,91,92,40,41,42,43,63,123,125,124,94,36,47],v11)) fun y15 =>br (decide (y15≥0)) (ob (cZ n (v11,v11)) fun y16 =>ob (dX n (y16,s1,v12,x.2.2)) fun y17 =>some (y17)) (br (decide (v11≥49)) (br (decide (v11<=57)) (ob (aN n (44,at2,s1,v12,jF,e4,jS,aW,())) fun y18 =>some (y18.1,y18.2.1,y18.2.2.1,y18.2.2.2.1,y18.2.2.2.2.1,y18.2.2.2.2.2.1,y18.2.2.2.2.2.2.1,aX,())) (ob (aN n (40,at2,s1,v12,jF,e4,jS,aW,())) fun y19 =>some (y19.1,y19.2.1,y19.2.2.1,y19.2.2.2.1,y19.2.2.2.2.1,y19.2.2.2.2.2.1,y19.2.2.2.2.2.2.1,aX,()))) (ob (aN n (40,at2,s1,v12,jF,e4,jS,aW,())) fun y20 =>some (y20.1,y20.2.1,y20.2.2.1,y20.2.2.2.1,y20.2.2.2.2.1,y20.2.2.2.2.2.1,y20.2.2.2.2.2.2.1,aX,()))))))
def fC (n:Nat) (g0:Int×Int×Int×List UInt8×Int×Int×Value×Int×Int×List (Int)×List (NdT)×Unit->Option (Er8)) (x15:Int×Int×Er8):Option (Er8) :=let zLm:=x15.1
 let zRj:=x15.2.1
 let zIe:=x15.2.2.1
 let s19:=x15.2.2.2.1
 let yEe:=x15.2.2.2.2.1
 let zYb:=x15.2.2.2.2.2.1
 let zYc:=x15.2.2.2.2.2.2.1
 let e23:=x15.2.2.2.2.2.2.2.1
 let zYd:=x15.2.2.2.2.2.2.2.2.1
 let yH:=x15.2.2.2.2.2.2.2.2.2.1
 let yCk:=x15.2.2.2.2.2.2.2.2.2.2.1
 br (decide (zIe≥0)) (chk ((inB zIe (yH.length)&&decide (0+(yH.length)<=yH.length))) (chk (decide (0+zIe.toNat<yH.length)) (let v27:Int:=yH.getD (0+zIe.toNat) (Ty.dflt (.int .i64))
 ob (fJ n (zLm,[0,0,0,0],v27,zRj,0,0,0,s19,yEe,zYb,zYc,e23,zYd,yCk,())) fun y28 =>let v29:Int:=IntKind.wrap .i64 (zIe - 1)
 g0 (zLm,y28.1,v29,y28.2.1,y28.2.2.1,y28.2.2.2.1,y28.2.2.2.2.1,y28.2.2.2.2.2.1,y28.2.2.2.2.2.2.1,yH,y28.2.2.2.2.2.2.2.1,())))) (some (zRj,x15.2.2.2))
def kQ (n:Nat) (x:Er8):Option (Er8) :=let yAq:=x.1
 let bD:=x.2.2.2.2.2.2.2.1
 let v10:Int:=((bD.length:Nat):Int)
 let v11:Int:=IntKind.wrap .i64 (v10 - 1)
 chk ((inB v11 (bD.length)&&decide (0+(bD.length)<=bD.length))) (chk (decide (0+v11.toNat<bD.length)) (let v12:Int:=bD.getD (0+v11.toNat) (Ty.dflt (.int .i64))
 let v13:Int:=((bD.length:Nat):Int)
 let v14:Int:=IntKind.wrap .i64 (v13 - 2)
 fix (fC n) n (yAq,v12,v14,x.2)))
def dU(n:Nat)(x:Int × List UInt8 × Int × Int × Er2):Option (Int × List UInt8 × Int × Int × Er2):=match kQ n (x.1,x.2.1,x.2.2.1,x.2.2.2.1,Value.nilFunc,x.2.2.2.2) with|some y=>some (y.1,y.2.1,y.2.2.1,y.2.2.2.1,y.2.2.2.2.2)|none=>none
def fK (n:Nat) (x:Er0):Option (Bool×Er0) :=let s1:=x.1
 let at2:=x.2.1
 let jF:=x.2.2.1
 let e4:=x.2.2.2.1
 let jS:=x.2.2.2.2.1
 let aW:=x.2.2.2.2.2.1
 let aX:=x.2.2.2.2.2.2.1
 chk (Nat.ble 1 aX.length) (chk (Nat.ble 1 ((aX.take (aX.length - 1)).length+1)) (chk (decide (((aX.take (aX.length - 1)).length+1) - 1 = (aX.take (aX.length - 1)).length)) (let v8:Int:=(((aX.getD (aX.length - 1) (0,0,[],[],())).2.2.2.1.length:Nat):Int)
 br (v8==0) (ob (aN n (40,at2,s1,at2,jF,e4,jS,aW,())) fun y9 =>some (y9.1,y9.2.1,y9.2.2.1,y9.2.2.2.1,y9.2.2.2.2.1,y9.2.2.2.2.2.1,y9.2.2.2.2.2.2.1,(aX.take (aX.length - 1))++[((aX.getD (aX.length - 1) (0,0,[],[],())).1,(aX.getD (aX.length - 1) (0,0,[],[],())).2.1,(aX.getD (aX.length - 1) (0,0,[],[],())).2.2.1,(aX.getD (aX.length - 1) (0,0,[],[],())).2.2.2.1,())],())) (chk (decide (((aX.take (aX.length - 1)).length+1) - 1 = (aX.take (aX.length - 1)).length)) (chk (decide (((aX.take (aX.length - 1)).length+1) - 1 = (aX.take (aX.length - 1)).length)) (ob (dU n (4,s1,at2,jF,e4,jS,(aX.getD (aX.length - 1) (0,0,[],[],())).2.2.2.1,aW,())) fun y10 =>chk (Nat.ble (((aX.getD (aX.length - 1) (0,0,[],[],())).2.2.1.length+([y10.1]:List (Int)).length) * 8) room) (let r11:List (Int):=(aX.getD (aX.length - 1) (0,0,[],[],())).2.2.1++[y10.1]
 chk (decide (((aX.take (aX.length - 1)).length+1) - 1 = (aX.take (aX.length - 1)).length)) (chk (decide (((aX.take (aX.length - 1)).length+1) - 1 = (aX.take (aX.length - 1)).length)) (some (true,y10.2.1,y10.2.2.1,y10.2.2.2.1,y10.2.2.2.2.1,y10.2.2.2.2.2.1,y10.2.2.2.2.2.2.2.1,(aX.take (aX.length - 1))++[((aX.getD (aX.length - 1) (0,0,[],[],())).1,(aX.getD (aX.length - 1) (0,0,[],[],())).2.1,r11,[],())],()))))))))))
def kR (n:Nat) (x:Er0):Option (Bool×Er0) :=ob (fK n (x)) fun y8 =>br (!y8.1) (some (false,y8.2)) (let v9:Int:=IntKind.wrap .i64 (y8.2.2.1+1)
 some (true,y8.2.1,v9,y8.2.2.2))
def lS (n:Nat) (x:Er0):Option (Bool×Er0) :=let s1:=x.1
 let at2:=x.2.1
 let jF:=x.2.2.1
 let e4:=x.2.2.2.1
 let jS:=x.2.2.2.2.1
 let aW:=x.2.2.2.2.2.1
 let aX:=x.2.2.2.2.2.2.1
 br (jF==9) (ob (aN n (41,at2,s1,at2,jF,e4,jS,aW,())) fun y8 =>some (y8.1,y8.2.1,y8.2.2.1,y8.2.2.2.1,y8.2.2.2.2.1,y8.2.2.2.2.2.1,y8.2.2.2.2.2.2.1,aX,())) (let v9:Int:=IntKind.wrap .i64 (jF+1)
 chk (Nat.ble ((aX.length+([(at2,v9,[],[],())]:List (Int×Int×List Int×List Int×Unit)).length) * 64) room) (let v10:Int:=IntKind.wrap .i64 (at2+1)
 some (true,s1,v10,v9,e4,jS,aW,aX++[(at2,v9,[],[],())],())))
def gU (n:Nat) (x:Er0):Option (Bool×Er0) :=let s1:=x.1
 let at2:=x.2.1
 let jF:=x.2.2.1
 let e4:=x.2.2.2.1
 let jS:=x.2.2.2.2.1
 let aW:=x.2.2.2.2.2.1
 let aX:=x.2.2.2.2.2.2.1
 let v8:Int:=((aX.length+0:Nat):Int)
 br (v8==1) (ob (aN n (41,at2,s1,at2,jF,e4,jS,aW,())) fun y9 =>some (y9.1,y9.2.1,y9.2.2.1,y9.2.2.2.1,y9.2.2.2.2.1,y9.2.2.2.2.2.1,y9.2.2.2.2.2.2.1,aX,())) (ob (fK n (x)) fun y10 =>let lT:=y10.2.2.2.2.2.2
 br (!y10.1) (some (false,y10.2)) (chk (Nat.ble 1 lT.2.1.length) (chk (Nat.ble 1 ((lT.2.1.take (lT.2.1.length - 1)).length+1)) (chk (decide (((lT.2.1.take (lT.2.1.length - 1)).length+1) - 1 = (lT.2.1.take (lT.2.1.length - 1)).length)) (let v11:Int:=(((lT.2.1.take (lT.2.1.length - 1)).length+1:Nat):Int)
 let v12:Int:=IntKind.wrap .i64 (v11 - 1)
 chk ((decide (0<=v12)&&decide (v12<=((lT.2.1.take (lT.2.1.length - 1)).length+1:Int)))) (chk (Nat.ble (v12.toNat) (lT.2.1.take (lT.2.1.length - 1)).length) (let v13:Int:=IntKind.wrap .i64 (y10.2.2.1+1)
 ob (dU n (5,y10.2.1,v13,y10.2.2.2.1,y10.2.2.2.2.1,y10.2.2.2.2.2.1,(lT.2.1.getD (lT.2.1.length - 1) (0,0,[],[],())).2.2.1,lT.1,())) fun y14 =>let v15:Int:=(lT.2.1.getD (lT.2.1.length - 1) (0,0,[],[],())).2.1
 ob (bJ n (7,[0,0,0,0],y14.1,0,0,0,v15,y14.2.1,y14.2.2.1,y14.2.2.2.1,y14.2.2.2.2.1,y14.2.2.2.2.2.1,y14.2.2.2.2.2.2.2.1,())) fun y16 =>ob (fB n (y16.1,y16.2.1,y16.2.2.1,y16.2.2.2.1,y16.2.2.2.2.1,y16.2.2.2.2.2.1,y16.2.2.2.2.2.2.1,(lT.2.1.take (lT.2.1.length - 1)).take (v12.toNat),())) fun y17 =>some (y17))))))))
def aH (n:Nat) (g0:List UInt8×Int×Int×Int×Int×List (NdT)×List (Int×Int×List (Int)×List (Int)×Unit)×Unit->Option (Bool×Er0)) (x8:Er0):Option (Bool×Er0) :=let s9:=x8.1
 let zOu:=x8.2.1
 br (decide (zOu<(s9.length:Int))) (chk (inB zOu s9.length) (let v16:Int:=((bF 0 s9 zOu).toNat:Int)
 br (v16==94||(v16==36||(v16==42||(v16==43||(v16==63||(v16==123||(v16==46||(v16==91||(v16==92||(v16==124||(v16==40||(v16==41||false)))))))))))) (br (v16==94) (ob (iN n (x8)) fun y17 =>br (!y17.1) (some (false,y17.2)) (g0 (y17.2))) (br (v16==36) (ob (iN n (x8)) fun y18 =>br (!y18.1) (some (false,y18.2)) (g0 (y18.2))) (br (v16==42) (ob (iB n (x8)) fun y19 =>br (!y19.1) (some (false,y19.2)) (g0 (y19.2))) (br (v16==43) (ob (iB n (x8)) fun y20 =>br (!y20.1) (some (false,y20.2)) (g0 (y20.2))) (br (v16==63) (ob (iB n (x8)) fun y21 =>br (!y21.1) (some (false,y21.2)) (g0 (y21.2))) (br (v16==123) (ob (iB n (x8)) fun y22 =>br (!y22.1) (some (false,y22.2)) (g0 (y22.2))) (br (v16==46) (ob (nC n (x8)) fun y23 =>br (!y23.1) (some (false,y23.2)) (g0 (y23.2))) (br (v16==91) (ob (lQ n (x8)) fun y24 =>br (!y24.1) (some (false,y24.2)) (g0 (y24.2))) (br (v16==92) (ob (jG n (x8)) fun y25 =>br (!y25.1) (some (false,y25.2)) (g0 (y25.2))) (br (v16==124) (ob (kR n (x8)) fun y26 =>br (!y26.1) (some (false,y26.2)) (g0 (y26.2))) (br (v16==40) (ob (lS n (x8)) fun y27 =>br (!y27.1) (some (false,y27.2)) (g0 (y27.2))) (br (v16==41) (ob (gU n (x8)) fun y28 =>br (!y28.1) (some (false,y28.2)) (g0 (y28.2))) (none))))))))))))) (let v29:Int:=IntKind.wrap .i64 (zOu+1)
 let v30:Int:=IntKind.wrap .i64 (v29 - 1)
 chk ((decide (0<=v29)&&decide (v29<=(s9.length:Int))&&(decide (0<=v30)&&decide (v30<=v29)))) (let v31:List UInt8:=(s9.take v29.toNat).drop v30.toNat
 ob (rQ n v31) fun y32 =>ob (dX n (y32,s9,v29,x8.2.2)) fun y33 =>br (!y33.1) (some (false,y33.2)) (g0 (y33.2)))))) (ob (fK n (x8)) fun y34 =>let kX:=y34.2.2.2.2.2.2
 br (!y34.1) (some (false,y34.2)) (let v35:Int:=((kX.2.1.length+0:Nat):Int)
 br (decide (v35 > 1)) (chk (Nat.ble 1 (kX.2.1.length+0)) (chk (decide ((kX.2.1.length+0) - 1<kX.2.1.length)) (let v36:Int:=(kX.2.1.getD ((kX.2.1.length+0) - 1) (0,0,[],[],())).1
 ob (aN n (41,v36,y34.2.1,y34.2.2.1,y34.2.2.2.1,y34.2.2.2.2.1,y34.2.2.2.2.2.1,y34.2.2.2.2.2.2.1,())) fun y37 =>some (y37.1,y37.2.1,y37.2.2.1,y37.2.2.2.1,y37.2.2.2.2.1,y37.2.2.2.2.2.1,y37.2.2.2.2.2.2.1,kX.2.1,())))) (chk (Nat.ble 1 kX.2.1.length) (chk (Nat.ble 1 ((kX.2.1.take (kX.2.1.length - 1)).length+1)) (chk (decide (((kX.2.1.take (kX.2.1.length - 1)).length+1) - 1 = (kX.2.1.take (kX.2.1.length - 1)).length)) (ob (dU n (5,y34.2.1,y34.2.2.1,y34.2.2.2.1,y34.2.2.2.2.1,y34.2.2.2.2.2.1,(kX.2.1.getD (kX.2.1.length - 1) (0,0,[],[],())).2.2.1,kX.1,())) fun y38 =>let v39:Int:=((y38.2.2.2.2.2.2.2.1.length:Nat):Int)
 br (decide (v39<=120)) (some (true,y38.2.1,y38.2.2.1,y38.2.2.2.1,y38.2.2.2.2.1,y38.2.2.2.2.2.1,y38.2.2.2.2.2.2.2.1,kX.2.1.take (kX.2.1.length - 1),())) (ob (aN n (2,0,y38.2.1,y38.2.2.1,y38.2.2.2.1,y38.2.2.2.2.1,y38.2.2.2.2.2.1,y38.2.2.2.2.2.2.2.1,())) fun y40 =>some (y40.1,y40.2.1,y40.2.2.1,y40.2.2.2.1,y40.2.2.2.2.1,y40.2.2.2.2.2.1,y40.2.2.2.2.2.2.1,kX.2.1.take (kX.2.1.length - 1),()))))))))
def rA (n:Nat) (x:Er0):Option (Bool×Er0) :=fix (aH n) n (x)
def jY (n:Nat) (x:List UInt8):Option (List (NdT)×Int×Int) :=let s_0:=x
 br (s_0==[]) (some ([(0,([0,0,0,0],(0,(0,(0,(0,(0,())))))))],0,0)) (ob (rA n (s_0,0,0,0,0,[],[(0,0,[],[],())],())) fun y1 =>br (!y1.1) (some ([],y1.2.2.2.2.2.1,y1.2.2.2.2.1)) (some (y1.2.2.2.2.2.2.1,0,0)))
def Vz (n:Nat) (x:List (Int)):Option (List UInt8) :=let s_0:=x
 ob (oO n s_0) fun y1 =>br ((y1.length:Int) != 1) (ob (Lf n s_0) fun y2 =>some y2) (br (y1==[10]) (ob (Lf n s_0) fun y3 =>some y3) (ob (strings_Contains n ([46,91,92,40,41,42,43,63,123,125,124,94,36],y1)) fun y4 =>br y4 (chk (decide ([92].length+y1.length<=aL)) (some ([92]++y1))) (some y1)))
def Qf (n:Nat) (x:Er5):Option (List UInt8) :=let n_0:=x
 ob (strconv_Itoa n n_0.2.2.2.2.1) fun y1 =>ob (strconv_Itoa n n_0.2.2.2.2.2.1) fun y2 =>br (n_0.2.2.2.2.2.1==(-1)) (br (n_0.2.2.2.2.1==0) (some [42]) (br (n_0.2.2.2.2.2.1==(-1)) (br (n_0.2.2.2.2.1==1) (some [43]) (br (n_0.2.2.2.2.2.1==1) (br (n_0.2.2.2.2.1==0) (some [63]) (br (n_0.2.2.2.2.2.1==(-1)) (chk (decide ([123].length+y1.length<=aL)) (chk (decide (([123]++y1).length+([44,125]:List UInt8).length<=aL)) (let v3:List UInt8:=([123]++y1)++[44,125]
 some v3))) (br (n_0.2.2.2.2.2.1==n_0.2.2.2.2.1) (chk (decide ([123].length+y1.length<=aL)) (chk (decide (([123]++y1).length+([125]:List UInt8).length<=aL)) (some (([123]++y1)++[125])))) (chk (decide ([123].length+y1.length<=aL)) (chk (decide (([123]++y1).length+([44]:List UInt8).length<=aL)) (chk (decide ((([123]++y1)++[44]).length+y2.length<=aL)) (let v4:List UInt8:=(([123]++y1)++[44])++y2
 chk (decide (v4.length+([125]:List UInt8).length<=aL)) (some (v4++[125]))))))))) (br (n_0.2.2.2.2.2.1==(-1)) (chk (decide ([123].length+y1.length<=aL)) (chk (decide (([123]++y1).length+([44,125]:List UInt8).length<=aL)) (let v5:List UInt8:=([123]++y1)++[44,125]
 some v5))) (br (n_0.2.2.2.2.2.1==n_0.2.2.2.2.1) (chk (decide ([123].length+y1.length<=aL)) (chk (decide (([123]++y1).length+([125]:List UInt8).length<=aL)) (some (([123]++y1)++[125])))) (chk (decide ([123].length+y1.length<=aL)) (chk (decide (([123]++y1).length+([44]:List UInt8).length<=aL)) (chk (decide ((([123]++y1)++[44]).length+y2.length<=aL)) (let v6:List UInt8:=(([123]++y1)++[44])++y2
 chk (decide (v6.length+([125]:List UInt8).length<=aL)) (some (v6++[125])))))))))) (br (n_0.2.2.2.2.2.1==1) (br (n_0.2.2.2.2.1==0) (some [63]) (br (n_0.2.2.2.2.2.1==(-1)) (chk (decide ([123].length+y1.length<=aL)) (chk (decide (([123]++y1).length+([44,125]:List UInt8).length<=aL)) (let v7:List UInt8:=([123]++y1)++[44,125]
 some v7))) (br (n_0.2.2.2.2.2.1==n_0.2.2.2.2.1) (chk (decide ([123].length+y1.length<=aL)) (chk (decide (([123]++y1).length+([125]:List UInt8).length<=aL)) (some (([123]++y1)++[125])))) (chk (decide ([123].length+y1.length<=aL)) (chk (decide (([123]++y1).length+([44]:List UInt8).length<=aL)) (chk (decide ((([123]++y1)++[44]).length+y2.length<=aL)) (let v8:List UInt8:=(([123]++y1)++[44])++y2
 chk (decide (v8.length+([125]:List UInt8).length<=aL)) (some (v8++[125]))))))))) (br (n_0.2.2.2.2.2.1==(-1)) (chk (decide ([123].length+y1.length<=aL)) (chk (decide (([123]++y1).length+([44,125]:List UInt8).length<=aL)) (let v9:List UInt8:=([123]++y1)++[44,125]
 some v9))) (br (n_0.2.2.2.2.2.1==n_0.2.2.2.2.1) (chk (decide ([123].length+y1.length<=aL)) (chk (decide (([123]++y1).length+([125]:List UInt8).length<=aL)) (some (([123]++y1)++[125])))) (chk (decide ([123].length+y1.length<=aL)) (chk (decide (([123]++y1).length+([44]:List UInt8).length<=aL)) (chk (decide ((([123]++y1)++[44]).length+y2.length<=aL)) (let v10:List UInt8:=(([123]++y1)++[44])++y2
 chk (decide (v10.length+([125]:List UInt8).length<=aL)) (some (v10++[125]))))))))))) (br (n_0.2.2.2.2.2.1==(-1)) (br (n_0.2.2.2.2.1==1) (some [43]) (br (n_0.2.2.2.2.2.1==1) (br (n_0.2.2.2.2.1==0) (some [63]) (br (n_0.2.2.2.2.2.1==(-1)) (chk (decide ([123].length+y1.length<=aL)) (chk (decide (([123]++y1).length+([44,125]:List UInt8).length<=aL)) (let v11:List UInt8:=([123]++y1)++[44,125]
 some v11))) (br (n_0.2.2.2.2.2.1==n_0.2.2.2.2.1) (chk (decide ([123].length+y1.length<=aL)) (chk (decide (([123]++y1).length+([125]:List UInt8).length<=aL)) (some (([123]++y1)++[125])))) (chk (decide ([123].length+y1.length<=aL)) (chk (decide (([123]++y1).length+([44]:List UInt8).length<=aL)) (chk (decide ((([123]++y1)++[44]).length+y2.length<=aL)) (let v12:List UInt8:=(([123]++y1)++[44])++y2
 chk (decide (v12.length+([125]:List UInt8).length<=aL)) (some (v12++[125]))))))))) (br (n_0.2.2.2.2.2.1==(-1)) (chk (decide ([123].length+y1.length<=aL)) (chk (decide (([123]++y1).length+([44,125]:List UInt8).length<=aL)) (let v13:List UInt8:=([123]++y1)++[44,125]
 some v13))) (br (n_0.2.2.2.2.2.1==n_0.2.2.2.2.1) (chk (decide ([123].length+y1.length<=aL)) (chk (decide (([123]++y1).length+([125]:List UInt8).length<=aL)) (some (([123]++y1)++[125])))) (chk (decide ([123].length+y1.length<=aL)) (chk (decide (([123]++y1).length+([44]:List UInt8).length<=aL)) (chk (decide ((([123]++y1)++[44]).length+y2.length<=aL)) (let v14:List UInt8:=(([123]++y1)++[44])++y2
 chk (decide (v14.length+([125]:List UInt8).length<=aL)) (some (v14++[125])))))))))) (br (n_0.2.2.2.2.2.1==1) (br (n_0.2.2.2.2.1==0) (some [63]) (br (n_0.2.2.2.2.2.1==(-1)) (chk (decide ([123].length+y1.length<=aL)) (chk (decide (([123]++y1).length+([44,125]:List UInt8).length<=aL)) (let v15:List UInt8:=([123]++y1)++[44,125]
 some v15))) (br (n_0.2.2.2.2.2.1==n_0.2.2.2.2.1) (chk (decide ([123].length+y1.length<=aL)) (chk (decide (([123]++y1).length+([125]:List UInt8).length<=aL)) (some (([123]++y1)++[125])))) (chk (decide ([123].length+y1.length<=aL)) (chk (decide (([123]++y1).length+([44]:List UInt8).length<=aL)) (chk (decide ((([123]++y1)++[44]).length+y2.length<=aL)) (let v16:List UInt8:=(([123]++y1)++[44])++y2
 chk (decide (v16.length+([125]:List UInt8).length<=aL)) (some (v16++[125]))))))))) (br (n_0.2.2.2.2.2.1==(-1)) (chk (decide ([123].length+y1.length<=aL)) (chk (decide (([123]++y1).length+([44,125]:List UInt8).length<=aL)) (let v17:List UInt8:=([123]++y1)++[44,125]
 some v17))) (br (n_0.2.2.2.2.2.1==n_0.2.2.2.2.1) (chk (decide ([123].length+y1.length<=aL)) (chk (decide (([123]++y1).length+([125]:List UInt8).length<=aL)) (some (([123]++y1)++[125])))) (chk (decide ([123].length+y1.length<=aL)) (chk (decide (([123]++y1).length+([44]:List UInt8).length<=aL)) (chk (decide ((([123]++y1)++[44]).length+y2.length<=aL)) (let v18:List UInt8:=(([123]++y1)++[44])++y2
 chk (decide (v18.length+([125]:List UInt8).length<=aL)) (some (v18++[125]))))))))))
def Zf (n:Nat) (g0:List (NdT)×List (NdT)×Int×Int×List (List UInt8)×Unit->Option (List UInt8×Int)) (x3:List (NdT)×List (NdT)×Int×Int×List (List UInt8)×Unit):Option (List UInt8×Int) :=let l_4:=x3.1
 let yM:=x3.2.1
 let Am:=x3.2.2.1
 let eY:=x3.2.2.2.1
 let bD:=x3.2.2.2.2.1
 br (decide (eY<Am)) (chk (inB eY yM.length) (let v9:Int×List (Int)×Int×Int×Int×Int×Int×Unit:=bF (Ty.dflt aC) yM eY
 br (v9.1==1) (ob (Vz n v9.2.1) fun y10 =>chk ((inB eY (bD.length)&&decide (0+(bD.length)<=bD.length))) (chk (decide (0+eY.toNat<bD.length)) (let r11:List (List UInt8):=bD.set (0+eY.toNat) y10
 let v12:Int:=IntKind.wrap .i64 (eY+1)
 g0 (l_4,yM,Am,v12,r11,())))) (br (v9.1==2) (chk ((inB eY (bD.length)&&decide (0+(bD.length)<=bD.length))) (chk (decide (0+eY.toNat<bD.length)) (let r13:List (List UInt8):=bD.set (0+eY.toNat) [94]
 let v14:Int:=IntKind.wrap .i64 (eY+1)
 g0 (l_4,yM,Am,v14,r13,())))) (br (v9.1==3) (chk ((inB eY (bD.length)&&decide (0+(bD.length)<=bD.length))) (chk (decide (0+eY.toNat<bD.length)) (let r15:List (List UInt8):=bD.set (0+eY.toNat) [36]
 let v16:Int:=IntKind.wrap .i64 (eY+1)
 g0 (l_4,yM,Am,v16,r15,())))) (br (v9.1==4) (chk ((inB v9.2.2.1 (bD.length)&&decide (0+(bD.length)<=bD.length))) (chk (decide (0+v9.2.2.1.toNat<bD.length)) (let v17:List UInt8:=bD.getD (0+v9.2.2.1.toNat) (Ty.dflt .str)
 chk ((inB v9.2.2.2.1 (bD.length)&&decide (0+(bD.length)<=bD.length))) (chk (decide (0+v9.2.2.2.1.toNat<bD.length)) (let v18:List UInt8:=bD.getD (0+v9.2.2.2.1.toNat) (Ty.dflt .str)
 chk (decide (v17.length+v18.length<=aL)) (chk ((inB eY (bD.length)&&decide (0+(bD.length)<=bD.length))) (chk (decide (0+eY.toNat<bD.length)) (let r19:List (List UInt8):=bD.set (0+eY.toNat) (v17++v18)
 let v20:Int:=IntKind.wrap .i64 (eY+1)
 g0 (l_4,yM,Am,v20,r19,()))))))))) (br (v9.1==5) (chk ((inB v9.2.2.1 (bD.length)&&decide (0+(bD.length)<=bD.length))) (chk (decide (0+v9.2.2.1.toNat<bD.length)) (let v21:List UInt8:=bD.getD (0+v9.2.2.1.toNat) (Ty.dflt .str)
 chk (decide (v21.length+([124]:List UInt8).length<=aL)) (chk ((inB v9.2.2.2.1 (bD.length)&&decide (0+(bD.length)<=bD.length))) (chk (decide (0+v9.2.2.2.1.toNat<bD.length)) (let v22:List UInt8:=bD.getD (0+v9.2.2.2.1.toNat) (Ty.dflt .str)
 chk (decide ((v21++[124]).length+v22.length<=aL)) (chk ((inB eY (bD.length)&&decide (0+(bD.length)<=bD.length))) (chk (decide (0+eY.toNat<bD.length)) (let r23:List (List UInt8):=bD.set (0+eY.toNat) ((v21++[124])++v22)
 let v24:Int:=IntKind.wrap .i64 (eY+1)
 g0 (l_4,yM,Am,v24,r23,())))))))))) (br (v9.1==6) (chk ((inB v9.2.2.1 (bD.length)&&decide (0+(bD.length)<=bD.length))) (chk (decide (0+v9.2.2.1.toNat<bD.length)) (let v25:List UInt8:=bD.getD (0+v9.2.2.1.toNat) (Ty.dflt .str)
 ob (Qf n v9) fun y26 =>chk (decide (v25.length+y26.length<=aL)) (chk ((inB eY (bD.length)&&decide (0+(bD.length)<=bD.length))) (chk (decide (0+eY.toNat<bD.length)) (let r27:List (List UInt8):=bD.set (0+eY.toNat) (v25++y26)
 let v28:Int:=IntKind.wrap .i64 (eY+1)
 g0 (l_4,yM,Am,v28,r27,()))))))) (br (v9.1==7) (chk ((inB v9.2.2.1 (bD.length)&&decide (0+(bD.length)<=bD.length))) (chk (decide (0+v9.2.2.1.toNat<bD.length)) (let v29:List UInt8:=bD.getD (0+v9.2.2.1.toNat) (Ty.dflt .str)
 chk (decide ([40].length+v29.length<=aL)) (chk (decide (([40]++v29).length+([41]:List UInt8).length<=aL)) (chk ((inB eY (bD.length)&&decide (0+(bD.length)<=bD.length))) (chk (decide (0+eY.toNat<bD.length)) (let r30:List (List UInt8):=bD.set (0+eY.toNat) (([40]++v29)++[41])
 let v31:Int:=IntKind.wrap .i64 (eY+1)
 g0 (l_4,yM,Am,v31,r30,())))))))) (br (v9.1==8) (ob (strconv_Itoa n v9.2.2.2.2.2.2.1) fun y32 =>chk (decide ([92].length+y32.length<=aL)) (chk ((inB eY (bD.length)&&decide (0+(bD.length)<=bD.length))) (chk (decide (0+eY.toNat<bD.length)) (let r33:List (List UInt8):=bD.set (0+eY.toNat) ([92]++y32)
 let v34:Int:=IntKind.wrap .i64 (eY+1)
 g0 (l_4,yM,Am,v34,r33,()))))) (let v35:Int:=IntKind.wrap .i64 (eY+1)
 g0 (l_4,yM,Am,v35,bD,()))))))))))) (let v36:Int:=IntKind.wrap .i64 ((l_4.length:Int) - 1)
 chk ((inB v36 (bD.length)&&decide (0+(bD.length)<=bD.length))) (chk (decide (0+v36.toNat<bD.length)) (let v37:List UInt8:=bD.getD (0+v36.toNat) (Ty.dflt .str)
 ob (jY n v37) fun y38 =>br (y38.2.2 != 0) (some ([],1)) (ob (sD n y38.1) fun y39 =>ob (sD n l_4) fun y40 =>br (!(y39==y40)) (some ([],1)) (some (v37,0))))))
def Qg (n:Nat) (x:List (NdT)):Option (List UInt8×Int) :=let l_0:=x
 ob (yF n l_0) fun y1 =>br (!y1) (some ([],1)) (chk ((decide (0<=(l_0.length:Int))&&(decide ((l_0.length:Int) = (l_0.length:Int))&&Nat.ble ((l_0.length:Int).toNat * 16) room))) (let r2:List (List UInt8):=List.replicate (l_0.length:Int).toNat []
 fix (Zf n) n (l_0,l_0,(l_0.length:Int),0,r2,())))
def kY (n:Nat) (x:Unit):Option (Bool) :=ob (jY n [94,40,97,124,98,43,41,123,50,44,51,125,36,124,99,63]) fun y1 =>ob (Qg n y1.1) fun y2 =>ob (jY n [97,40,98]) fun y3 =>br (y1.2.2==0) (br (y2.2==0) (br (y1.2.1==0) (br (y2.1==[94,40,97,124,98,43,41,123,50,44,51,125,36,124,99,63]) (ob (qK n y1.1) fun y4 =>br (y4==1) (br (y3.2.1==1) (some (y3.2.2==41)) (some false)) (some false)) (some false)) (some false)) (some false)) (some false)
def Cb (n:Nat) (x:List UInt8×List UInt8):Option (Bool) :=let s_0:=x.1
 let t_1:=x.2
 br (decide ((s_0.length:Int) > 60)) (ob (kY n ()) fun y1 =>some y1) (br (decide ((t_1.length:Int) > 60)) (ob (kY n ()) fun y2 =>some y2) (br (s_0==[]) (ob (kY n ()) fun y3 =>some y3) (br (t_1==[]) (ob (kY n ()) fun y4 =>some y4) (ob (kY n ()) fun y5 =>br (!y5) (ob (kY n ()) fun y6 =>some y6) (ob (jY n s_0) fun y7 =>ob (jY n t_1) fun y8 =>chk (decide (s_0.length+([124]:List UInt8).length<=aL)) (chk (decide ((s_0++[124]).length+t_1.length<=aL)) (ob (jY n ((s_0++[124])++t_1)) fun y9 =>br (y7.2.2 != 0) (some true) (br (y8.2.2 != 0) (some true) (ob (qK n y7.1) fun y10 =>ob (qK n y8.1) fun y11 =>let v12:Int:=IntKind.wrap .i64 (y10+y11)
 br (decide (v12 > 9)) (some true) (let v13:Int:=IntKind.wrap .i64 ((y7.1.length:Int)+(y8.1.length:Int))
 br (decide (v13 > 100)) (some true) (br (y9.2.2==0) (let v14:Int:=IntKind.wrap .i64 ((y7.1.length:Int)+(y8.1.length:Int))
 let v15:Int:=IntKind.wrap .i64 (v14+1)
 br ((y9.1.length:Int)==v15) (let v16:Int:=IntKind.wrap .i64 ((y7.1.length:Int) - 1)
 chk (inB v16 y7.1.length) (let v17:Int×List (Int)×Int×Int×Int×Int×Int×Unit:=bF (Ty.dflt aC) y7.1 v16
 br (v17.1==5) (some true) (ob (sD n y9.1) fun y18 =>ob (sD n y7.1) fun y19 =>chk (decide ([124].length+y19.length<=aL)) (ob (sD n y8.1) fun y20 =>chk (decide (([124]++y19).length+y20.length<=aL)) (some (y18==(([124]++y19)++y20))))))) (some false)) (some false))))))))))))
end Go.Dec
