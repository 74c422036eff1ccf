/- Part of a proof over this seat: a library of my own, and what it says of this seat. No statement is proved here. -/
import Derived.Test.YthhbdkdofhhoeaaGreatDoorPartAL
import Derived.Test.YthhbdkdofhhoeaaGreatDoorPartAW
import Derived.Test.YthhbdkdofhhoeaaGreatDoorPartAQ
namespace Go.Dec
set_option linter.unusedVariables false
abbrev Er0:Type:=List UInt8 × Int × Int × Int × Int × List (NdT) × List (Int × Int × List (Int) × List (Int) × Unit) × Unit
abbrev Er2:Type:=Int × Int × List (Int) × List (NdT) × Unit
abbrev Er3:Type:=Int × Int × List (NdT) × Unit
abbrev Er5:Type:=Int × List (Int) × Int × Int × Int × Int × Int × Unit
abbrev Er7:Type:=List UInt8 × Int × Int × Value × Er3
abbrev Er8:Type:=Int × List UInt8 × Int × Int × Value × Er2
abbrev Er9:Type:=List UInt8 × Int × Int × Er3
def kK (n:Nat) (x:Er7):Option (Bool×Er7) :=let s1:=x.1
 let at2:=x.2.1
 br (decide (at2<(s1.length:Int))) (chk (inB at2 s1.length) (let v8:Int:=((bE 0 s1 at2).toNat:Int)
 ob (strings_IndexByte n ([42,43,63,123],v8)) fun y9 =>some ((decide (y9≥0)),x))) (some (false,x))
def bV(n:Nat)(x:Er9):Option (Bool × Er9):=match kK n (x.1,x.2.1,x.2.2.1,Value.nilFunc,x.2.2.2) with|some y=>some (y.1,y.2.1,y.2.2.1,y.2.2.2.1,y.2.2.2.2.2)|none=>none
def oI (n:Nat) (x:Int×Int×Er7):Option (Bool×Er7) :=let e_1:=x.1
 let yHs:=x.2.1
 let s3:=x.2.2.1
 let at4:=x.2.2.2.1
 let yEc:=x.2.2.2.2.1
 let yEd:=x.2.2.2.2.2.1
 let yHt:=x.2.2.2.2.2.2.2.2.1
 some (false,s3,at4,yEc,yEd,e_1,yHs,yHt,())
def aM(n:Nat)(x:Int × Int × Er9):Option (Bool × Er9):=match oI n (x.1,x.2.1,x.2.2.1,x.2.2.2.1,x.2.2.2.2.1,Value.nilFunc,x.2.2.2.2.2) with|some y=>some (y.1,y.2.1,y.2.2.1,y.2.2.2.1,y.2.2.2.2.2)|none=>none
def fI (n:Nat) (x:Int×List (Int)×Int×Int×Int×Int×Int×Er7):Option (Int×Er7) :=let n_1:=x.1
 let n_2:=x.2.1
 let n_3:=x.2.2.1
 let n_4:=x.2.2.2.1
 let n_5:=x.2.2.2.2.1
 let n_6:=x.2.2.2.2.2.1
 let n_7:=x.2.2.2.2.2.2.1
 let s8:=x.2.2.2.2.2.2.2.1
 let at9:=x.2.2.2.2.2.2.2.2.1
 let yBd:=x.2.2.2.2.2.2.2.2.2.1
 let yBe:=x.2.2.2.2.2.2.2.2.2.2.1
 let e12:=x.2.2.2.2.2.2.2.2.2.2.2.1
 let yBf:=x.2.2.2.2.2.2.2.2.2.2.2.2.1
 let zZz:=x.2.2.2.2.2.2.2.2.2.2.2.2.2.1
 chk (Nat.ble ((zZz.length+([(n_1,(n_2,(n_3,(n_4,(n_5,(n_6,(n_7,())))))))]:List (NdT)).length) * 80) room) (let r15:List (NdT):=zZz++[(n_1,(n_2,(n_3,(n_4,(n_5,(n_6,(n_7,())))))))]
 let v16:Int:=((r15.length:Nat):Int)
 let v17:Int:=IntKind.wrap .i64 (v16 - 1)
 some (v17,s8,at9,yBd,yBe,e12,yBf,r15,()))
def bN(n:Nat)(x:Int × List (Int) × Int × Int × Int × Int × Int × Er9):Option (Int × Er9):=match fI n (x.1,x.2.1,x.2.2.1,x.2.2.2.1,x.2.2.2.2.1,x.2.2.2.2.2.1,x.2.2.2.2.2.2.1,x.2.2.2.2.2.2.2.1,x.2.2.2.2.2.2.2.2.1,x.2.2.2.2.2.2.2.2.2.1,Value.nilFunc,x.2.2.2.2.2.2.2.2.2.2) with|some y=>some (y.1,y.2.1,y.2.2.1,y.2.2.2.1,y.2.2.2.2.2)|none=>none
def uW (n:Nat) (x:List UInt8):Option (Int) :=let s_0:=x
 ob (wI n s_0) fun y1 =>br (!(!y1.2)) (some (-1)) (br (decide ((s_0.length:Int) > 3)) (some (-1)) (chk (inB 0 s_0.length) (let v2:Int:=((bE 0 s_0 0).toNat:Int)
 br (decide (v2 < 48)) (some (-1)) (chk (inB 0 s_0.length) (let v3:Int:=((bE 0 s_0 0).toNat:Int)
 br (decide (v3 > 57)) (some (-1)) (some y1.1))))))
def Gu(n:Nat)(x:List UInt8):Option (Int × Int × Bool):=
 let s_0:List UInt8:=x
 ob (strings_Cut n (s_0,[44])) λy1 =>
 ob (uW n y1.1) λy2 =>
 br y1.2.2 (
  ob (uW n y1.2.1) λy3 =>
  br (y2==(-1)) (
   some (0,0,false)) (
   br y1.2.2 (
    br (y3==(-1)) (
     br (!(y1.2.1==[])) (
      some (0,0,false)) (
      br (decide (y2>255)) (
       some (0,0,false)) (
       br (decide (y3>255)) (
        some (0,0,false)) (
        br (y3 != (-1)) (
         br (decide (y3<(if 1>y2 then 1 else y2))) (
          some (0,0,false)) (
          some (y2,y3,true))) (
         some (y2,y3,true)))))) (
     br (decide (y2>255)) (
      some (0,0,false)) (
      br (decide (y3>255)) (
       some (0,0,false)) (
       br (y3 != (-1)) (
        br (decide (y3<(if 1>y2 then 1 else y2))) (
         some (0,0,false)) (
         some (y2,y3,true))) (
        some (y2,y3,true)))))) (
    br (decide (y2>255)) (
     some (0,0,false)) (
     br (decide (y3>255)) (
      some (0,0,false)) (
      br (y3 != (-1)) (
       br (decide (y3<(if 1>y2 then 1 else y2))) (
        some (0,0,false)) (
        some (y2,y3,true))) (
       some (y2,y3,true))))))) (
  br (y2==(-1)) (
   some (0,0,false)) (
   br y1.2.2 (
    br (y2==(-1)) (
     br (!(y1.2.1==[])) (
      some (0,0,false)) (
      br (decide (y2>255)) (
       some (0,0,false)) (
       br (decide (y2>255)) (
        some (0,0,false)) (
        br (y2 != (-1)) (
         br (decide (y2<(if 1>y2 then 1 else y2))) (
          some (0,0,false)) (
          some (y2,y2,true))) (
         some (y2,y2,true)))))) (
     br (decide (y2>255)) (
      some (0,0,false)) (
      br (decide (y2>255)) (
       some (0,0,false)) (
       br (y2 != (-1)) (
        br (decide (y2<(if 1>y2 then 1 else y2))) (
         some (0,0,false)) (
         some (y2,y2,true))) (
        some (y2,y2,true)))))) (
    br (decide (y2>255)) (
     some (0,0,false)) (
     br (decide (y2>255)) (
      some (0,0,false)) (
      br (y2 != (-1)) (
       br (decide (y2<(if 1>y2 then 1 else y2))) (
        some (0,0,false)) (
        some (y2,y2,true))) (
       some (y2,y2,true)))))))
def fA (n:Nat) (x:Int×Er0):Option (Bool×Er0) :=let Uz:=x.1
 let s2:=x.2.1
 let at3:=x.2.2.1
 let zKx:=x.2.2.2.1
 let e5:=x.2.2.2.2.1
 let zKy:=x.2.2.2.2.2.1
 let zYk:=x.2.2.2.2.2.2.1
 let aJ:=x.2.2.2.2.2.2.2.1
 ob (bV n (s2,at3,zKx,e5,zKy,zYk,())) fun y9 =>br (!y9.1) (chk (Nat.ble 1 aJ.length) (chk (Nat.ble 1 ((aJ.take (aJ.length - 1)).length+1)) (chk (Nat.ble 1 ((aJ.take (aJ.length - 1)).length+1)) (chk (decide (((aJ.take (aJ.length - 1)).length+1) - 1 = (aJ.take (aJ.length - 1)).length)) (chk (Nat.ble (((aJ.getD (aJ.length - 1) (0,0,[],[],())).2.2.2.1.length+([Uz]:List (Int)).length) * 8) room) (let r10:List (Int):=(aJ.getD (aJ.length - 1) (0,0,[],[],())).2.2.2.1++[Uz]
 chk (decide (((aJ.take (aJ.length - 1)).length+1) - 1 = (aJ.take (aJ.length - 1)).length)) (some (true,y9.2.1,y9.2.2.1,y9.2.2.2.1,y9.2.2.2.2.1,y9.2.2.2.2.2.1,y9.2.2.2.2.2.2.1,(aJ.take (aJ.length - 1))++[((aJ.getD (aJ.length - 1) (0,0,[],[],())).1,(aJ.getD (aJ.length - 1) (0,0,[],[],())).2.1,(aJ.getD (aJ.length - 1) (0,0,[],[],())).2.2.1,r10,())],())))))))) (let v11:Int:=IntKind.wrap .i64 (y9.2.2.1+1)
 chk (inB at3 y9.2.1.length) (let v12:Int:=((bE 0 y9.2.1 at3).toNat:Int)
 br (v12==43) (ob (bN n (6,[0,0,0,0],Uz,0,1,(-1),0,y9.2.1,v11,y9.2.2.2)) fun y13 =>ob (bV n (y13.2)) fun y14 =>br y14.1 (ob (aM n (43,y14.2.2.1,y14.2)) fun y15 =>some (y15.1,y15.2.1,y15.2.2.1,y15.2.2.2.1,y15.2.2.2.2.1,y15.2.2.2.2.2.1,y15.2.2.2.2.2.2.1,aJ,())) (chk (Nat.ble 1 aJ.length) (chk (Nat.ble 1 ((aJ.take (aJ.length - 1)).length+1)) (chk (Nat.ble 1 ((aJ.take (aJ.length - 1)).length+1)) (chk (decide (((aJ.take (aJ.length - 1)).length+1) - 1 = (aJ.take (aJ.length - 1)).length)) (chk (Nat.ble (((aJ.getD (aJ.length - 1) (0,0,[],[],())).2.2.2.1.length+([y13.1]:List (Int)).length) * 8) room) (let r16:List (Int):=(aJ.getD (aJ.length - 1) (0,0,[],[],())).2.2.2.1++[y13.1]
 chk (decide (((aJ.take (aJ.length - 1)).length+1) - 1 = (aJ.take (aJ.length - 1)).length)) (some (true,y14.2.1,y14.2.2.1,y14.2.2.2.1,y14.2.2.2.2.1,y14.2.2.2.2.2.1,y14.2.2.2.2.2.2.1,(aJ.take (aJ.length - 1))++[((aJ.getD (aJ.length - 1) (0,0,[],[],())).1,(aJ.getD (aJ.length - 1) (0,0,[],[],())).2.1,(aJ.getD (aJ.length - 1) (0,0,[],[],())).2.2.1,r16,())],()))))))))) (br (v12==63) (ob (bN n (6,[0,0,0,0],Uz,0,0,1,0,y9.2.1,v11,y9.2.2.2)) fun y17 =>ob (bV n (y17.2)) fun y18 =>br y18.1 (ob (aM n (43,y18.2.2.1,y18.2)) fun y19 =>some (y19.1,y19.2.1,y19.2.2.1,y19.2.2.2.1,y19.2.2.2.2.1,y19.2.2.2.2.2.1,y19.2.2.2.2.2.2.1,aJ,())) (chk (Nat.ble 1 aJ.length) (chk (Nat.ble 1 ((aJ.take (aJ.length - 1)).length+1)) (chk (Nat.ble 1 ((aJ.take (aJ.length - 1)).length+1)) (chk (decide (((aJ.take (aJ.length - 1)).length+1) - 1 = (aJ.take (aJ.length - 1)).length)) (chk (Nat.ble (((aJ.getD (aJ.length - 1) (0,0,[],[],())).2.2.2.1.length+([y17.1]:List (Int)).length) * 8) room) (let r20:List (Int):=(aJ.getD (aJ.length - 1) (0,0,[],[],())).2.2.2.1++[y17.1]
 chk (decide (((aJ.take (aJ.length - 1)).length+1) - 1 = (aJ.take (aJ.length - 1)).length)) (some (true,y18.2.1,y18.2.2.1,y18.2.2.2.1,y18.2.2.2.2.1,y18.2.2.2.2.2.1,y18.2.2.2.2.2.2.1,(aJ.take (aJ.length - 1))++[((aJ.getD (aJ.length - 1) (0,0,[],[],())).1,(aJ.getD (aJ.length - 1) (0,0,[],[],())).2.1,(aJ.getD (aJ.length - 1) (0,0,[],[],())).2.2.1,r20,())],()))))))))) (br (v12==123) (chk ((decide (0<=v11)&&decide (v11<=(y9.2.1.length:Int)))) (ob (strings_Cut n (y9.2.1.drop v11.toNat,[125])) fun y21 =>ob (Gu n y21.1) fun y22 =>br (!y21.2.2) (ob (aM n (43,at3,y9.2.1,v11,y9.2.2.2)) fun y23 =>some (y23.1,y23.2.1,y23.2.2.1,y23.2.2.2.1,y23.2.2.2.2.1,y23.2.2.2.2.2.1,y23.2.2.2.2.2.2.1,aJ,())) (br (!y22.2.2) (ob (aM n (43,at3,y9.2.1,v11,y9.2.2.2)) fun y24 =>some (y24.1,y24.2.1,y24.2.2.1,y24.2.2.2.1,y24.2.2.2.2.1,y24.2.2.2.2.2.1,y24.2.2.2.2.2.2.1,aJ,())) (let v25:Int:=IntKind.wrap .i64 ((y21.1.length:Int)+1)
 let v26:Int:=IntKind.wrap .i64 (v11+v25)
 ob (bN n (6,[0,0,0,0],Uz,0,y22.1,y22.2.1,0,y9.2.1,v26,y9.2.2.2)) fun y27 =>ob (bV n (y27.2)) fun y28 =>br y28.1 (ob (aM n (43,y28.2.2.1,y28.2)) fun y29 =>some (y29.1,y29.2.1,y29.2.2.1,y29.2.2.2.1,y29.2.2.2.2.1,y29.2.2.2.2.2.1,y29.2.2.2.2.2.2.1,aJ,())) (chk (Nat.ble 1 aJ.length) (chk (Nat.ble 1 ((aJ.take (aJ.length - 1)).length+1)) (chk (Nat.ble 1 ((aJ.take (aJ.length - 1)).length+1)) (chk (decide (((aJ.take (aJ.length - 1)).length+1) - 1 = (aJ.take (aJ.length - 1)).length)) (chk (Nat.ble (((aJ.getD (aJ.length - 1) (0,0,[],[],())).2.2.2.1.length+([y27.1]:List (Int)).length) * 8) room) (let r30:List (Int):=(aJ.getD (aJ.length - 1) (0,0,[],[],())).2.2.2.1++[y27.1]
 chk (decide (((aJ.take (aJ.length - 1)).length+1) - 1 = (aJ.take (aJ.length - 1)).length)) (some (true,y28.2.1,y28.2.2.1,y28.2.2.2.1,y28.2.2.2.2.1,y28.2.2.2.2.2.1,y28.2.2.2.2.2.2.1,(aJ.take (aJ.length - 1))++[((aJ.getD (aJ.length - 1) (0,0,[],[],())).1,(aJ.getD (aJ.length - 1) (0,0,[],[],())).2.1,(aJ.getD (aJ.length - 1) (0,0,[],[],())).2.2.1,r30,())],())))))))))))) (ob (bN n (6,[0,0,0,0],Uz,0,0,(-1),0,y9.2.1,v11,y9.2.2.2)) fun y31 =>ob (bV n (y31.2)) fun y32 =>br y32.1 (ob (aM n (43,y32.2.2.1,y32.2)) fun y33 =>some (y33.1,y33.2.1,y33.2.2.1,y33.2.2.2.1,y33.2.2.2.2.1,y33.2.2.2.2.2.1,y33.2.2.2.2.2.2.1,aJ,())) (chk (Nat.ble 1 aJ.length) (chk (Nat.ble 1 ((aJ.take (aJ.length - 1)).length+1)) (chk (Nat.ble 1 ((aJ.take (aJ.length - 1)).length+1)) (chk (decide (((aJ.take (aJ.length - 1)).length+1) - 1 = (aJ.take (aJ.length - 1)).length)) (chk (Nat.ble (((aJ.getD (aJ.length - 1) (0,0,[],[],())).2.2.2.1.length+([y31.1]:List (Int)).length) * 8) room) (let r34:List (Int):=(aJ.getD (aJ.length - 1) (0,0,[],[],())).2.2.2.1++[y31.1]
 chk (decide (((aJ.take (aJ.length - 1)).length+1) - 1 = (aJ.take (aJ.length - 1)).length)) (some (true,y32.2.1,y32.2.2.1,y32.2.2.2.1,y32.2.2.2.2.1,y32.2.2.2.2.2.1,y32.2.2.2.2.2.2.1,(aJ.take (aJ.length - 1))++[((aJ.getD (aJ.length - 1) (0,0,[],[],())).1,(aJ.getD (aJ.length - 1) (0,0,[],[],())).2.1,(aJ.getD (aJ.length - 1) (0,0,[],[],())).2.2.1,r34,())],())))))))))))))
def iK (n:Nat) (x:Er0):Option (Bool×Er0) :=let s1:=x.1
 let at2:=x.2.1
 let jD:=x.2.2.1
 let e4:=x.2.2.2.1
 let jO:=x.2.2.2.2.1
 let aY:=x.2.2.2.2.2.1
 let aZ:=x.2.2.2.2.2.2.1
 chk (inB at2 s1.length) (let v8:Int:=((bE 0 s1 at2).toNat:Int)
 br (v8==36) (let v9:Int:=IntKind.wrap .i64 (at2+1)
 ob (bV n (s1,v9,jD,e4,jO,aY,())) fun y10 =>br y10.1 (ob (aM n (43,y10.2.2.1,y10.2)) fun y11 =>some (y11.1,y11.2.1,y11.2.2.1,y11.2.2.2.1,y11.2.2.2.2.1,y11.2.2.2.2.2.1,y11.2.2.2.2.2.2.1,aZ,())) (ob (bN n (3,[0,0,0,0],0,0,0,0,0,y10.2)) fun y12 =>ob (fA n (y12.1,y12.2.1,y12.2.2.1,y12.2.2.2.1,y12.2.2.2.2.1,y12.2.2.2.2.2.1,y12.2.2.2.2.2.2.1,aZ,())) fun y13 =>some (y13))) (let v14:Int:=IntKind.wrap .i64 (at2+1)
 ob (bV n (s1,v14,jD,e4,jO,aY,())) fun y15 =>br y15.1 (ob (aM n (43,y15.2.2.1,y15.2)) fun y16 =>some (y16.1,y16.2.1,y16.2.2.1,y16.2.2.2.1,y16.2.2.2.2.1,y16.2.2.2.2.2.1,y16.2.2.2.2.2.2.1,aZ,())) (ob (bN n (2,[0,0,0,0],0,0,0,0,0,y15.2)) fun y17 =>ob (fA n (y17.1,y17.2.1,y17.2.2.1,y17.2.2.2.1,y17.2.2.2.2.1,y17.2.2.2.2.2.1,y17.2.2.2.2.2.2.1,aZ,())) fun y18 =>some (y18))))
def gZ (n:Nat) (x:Er0):Option (Bool×Er0) :=let s1:=x.1
 let at2:=x.2.1
 let jD:=x.2.2.1
 let e4:=x.2.2.2.1
 let jO:=x.2.2.2.2.1
 let aY:=x.2.2.2.2.2.1
 let aZ:=x.2.2.2.2.2.2.1
 ob (aM n (43,at2,s1,at2,jD,e4,jO,aY,())) fun y8 =>some (y8.1,y8.2.1,y8.2.2.1,y8.2.2.2.1,y8.2.2.2.2.1,y8.2.2.2.2.2.1,y8.2.2.2.2.2.2.1,aZ,())
def dX (n:Nat) (x:List (Int)×Er0):Option (Bool×Er0) :=let s_1:=x.1
 let s2:=x.2.1
 let at3:=x.2.2.1
 let zKx:=x.2.2.2.1
 let e5:=x.2.2.2.2.1
 let zKy:=x.2.2.2.2.2.1
 let zYk:=x.2.2.2.2.2.2.1
 let aJ:=x.2.2.2.2.2.2.2.1
 ob (bN n (1,s_1,0,0,0,0,0,s2,at3,zKx,e5,zKy,zYk,())) fun y9 =>ob (fA n (y9.1,y9.2.1,y9.2.2.1,y9.2.2.2.1,y9.2.2.2.2.1,y9.2.2.2.2.2.1,y9.2.2.2.2.2.2.1,aJ,())) fun y10 =>some (y10)
def mX (n:Nat) (x:Er0):Option (Bool×Er0) :=let s1:=x.1
 let at2:=x.2.1
 let v8:Int:=IntKind.wrap .i64 (at2+1)
 ob (Ey n ([0,0,0,0])) fun y9 =>ob (dX n (y9,s1,v8,x.2.2)) fun y10 =>some (y10)
def lI (n:Nat) (x:Er0):Option (Bool×Er0) :=let s1:=x.1
 let at2:=x.2.1
 let jD:=x.2.2.1
 let e4:=x.2.2.2.1
 let jO:=x.2.2.2.2.1
 let aY:=x.2.2.2.2.2.1
 let aZ:=x.2.2.2.2.2.2.1
 chk ((decide (0<=at2)&&decide (at2<=(s1.length:Int)))) (ob (oZ n (s1.drop at2.toNat)) fun y8 =>br (y8.2.2 != 0) (ob (aM n (y8.2.2,at2,s1,at2,jD,e4,jO,aY,())) fun y9 =>some (y9.1,y9.2.1,y9.2.2.1,y9.2.2.2.1,y9.2.2.2.2.1,y9.2.2.2.2.2.1,y9.2.2.2.2.2.2.1,aZ,())) (let v10:Int:=IntKind.wrap .i64 (at2+y8.2.1)
 ob (dX n (y8.1,s1,v10,x.2.2)) fun y11 =>some (y11)))
def jE (n:Nat) (x:Er0):Option (Bool×Er0) :=let s1:=x.1
 let at2:=x.2.1
 let jD:=x.2.2.1
 let e4:=x.2.2.2.1
 let jO:=x.2.2.2.2.1
 let aY:=x.2.2.2.2.2.1
 let aZ:=x.2.2.2.2.2.2.1
 let v8:Int:=IntKind.wrap .i64 (at2+1)
 br (v8==(s1.length:Int)) (ob (aM n (40,at2,s1,at2,jD,e4,jO,aY,())) fun y9 =>some (y9.1,y9.2.1,y9.2.2.1,y9.2.2.2.1,y9.2.2.2.2.1,y9.2.2.2.2.2.1,y9.2.2.2.2.2.2.1,aZ,())) (let v10:Int:=IntKind.wrap .i64 (at2+1)
 chk (inB v10 s1.length) (let v11:Int:=((bE 0 s1 v10).toNat:Int)
 let v12:Int:=IntKind.wrap .i64 (at2+2)
 br (v11==110) (ob (rO n [10]) fun y13 =>ob (dX n (y13,s1,v12,x.2.2)) fun y14 =>some (y14)) (ob (strings_IndexByte n ([46,91,92,40,41,42,43,63,123,125,124,94,36,47],v11)) fun y15 =>br (decide (y15≥0)) (ob (dH n (v11,v11)) fun y16 =>ob (dX n (y16,s1,v12,x.2.2)) fun y17 =>some (y17)) (br (decide (v11≥49)) (br (decide (v11<=57)) (ob (aM n (44,at2,s1,v12,jD,e4,jO,aY,())) fun y18 =>some (y18.1,y18.2.1,y18.2.2.1,y18.2.2.2.1,y18.2.2.2.2.1,y18.2.2.2.2.2.1,y18.2.2.2.2.2.2.1,aZ,())) (ob (aM n (40,at2,s1,v12,jD,e4,jO,aY,())) fun y19 =>some (y19.1,y19.2.1,y19.2.2.1,y19.2.2.2.1,y19.2.2.2.2.1,y19.2.2.2.2.2.1,y19.2.2.2.2.2.2.1,aZ,()))) (ob (aM n (40,at2,s1,v12,jD,e4,jO,aY,())) fun y20 =>some (y20.1,y20.2.1,y20.2.2.1,y20.2.2.2.1,y20.2.2.2.2.1,y20.2.2.2.2.2.1,y20.2.2.2.2.2.2.1,aZ,()))))))
def fB (n:Nat) (g0:Int×Int×Int×List UInt8×Int×Int×Value×Int×Int×List (Int)×List (NdT)×Unit->Option (Er8)) (x15:Int×Int×Er8):Option (Er8) :=let zOh:=x15.1
 let zUq:=x15.2.1
 let zKz:=x15.2.2.1
 let s19:=x15.2.2.2.1
 let yHu:=x15.2.2.2.2.1
 let yBg:=x15.2.2.2.2.2.1
 let yBh:=x15.2.2.2.2.2.2.1
 let e23:=x15.2.2.2.2.2.2.2.1
 let yBi:=x15.2.2.2.2.2.2.2.2.1
 let yQ:=x15.2.2.2.2.2.2.2.2.2.1
 let yFz:=x15.2.2.2.2.2.2.2.2.2.2.1
 br (decide (zKz≥0)) (chk ((inB zKz (yQ.length)&&decide (0+(yQ.length)<=yQ.length))) (chk (decide (0+zKz.toNat<yQ.length)) (let v27:Int:=yQ.getD (0+zKz.toNat) (Ty.dflt (.int .i64))
 ob (fI n (zOh,[0,0,0,0],v27,zUq,0,0,0,s19,yHu,yBg,yBh,e23,yBi,yFz,())) fun y28 =>let v29:Int:=IntKind.wrap .i64 (zKz - 1)
 g0 (zOh,y28.1,v29,y28.2.1,y28.2.2.1,y28.2.2.2.1,y28.2.2.2.2.1,y28.2.2.2.2.2.1,y28.2.2.2.2.2.2.1,yQ,y28.2.2.2.2.2.2.2.1,())))) (some (zUq,x15.2.2.2))
def kL (n:Nat) (x:Er8):Option (Er8) :=let yEe:=x.1
 let bI:=x.2.2.2.2.2.2.2.1
 let v10:Int:=((bI.length:Nat):Int)
 let v11:Int:=IntKind.wrap .i64 (v10 - 1)
 chk ((inB v11 (bI.length)&&decide (0+(bI.length)<=bI.length))) (chk (decide (0+v11.toNat<bI.length)) (let v12:Int:=bI.getD (0+v11.toNat) (Ty.dflt (.int .i64))
 let v13:Int:=((bI.length:Nat):Int)
 let v14:Int:=IntKind.wrap .i64 (v13 - 2)
 fix (fB n) n (yEe,v12,v14,x.2)))
def dU(n:Nat)(x:Int × List UInt8 × Int × Int × Er2):Option (Int × List UInt8 × Int × Int × Er2):=match kL n (x.1,x.2.1,x.2.2.1,x.2.2.2.1,Value.nilFunc,x.2.2.2.2) with|some y=>some (y.1,y.2.1,y.2.2.1,y.2.2.2.1,y.2.2.2.2.2)|none=>none
def fJ (n:Nat) (x:Er0):Option (Bool×Er0) :=let s1:=x.1
 let at2:=x.2.1
 let jD:=x.2.2.1
 let e4:=x.2.2.2.1
 let jO:=x.2.2.2.2.1
 let aY:=x.2.2.2.2.2.1
 let aZ:=x.2.2.2.2.2.2.1
 chk (Nat.ble 1 aZ.length) (chk (Nat.ble 1 ((aZ.take (aZ.length - 1)).length+1)) (chk (decide (((aZ.take (aZ.length - 1)).length+1) - 1 = (aZ.take (aZ.length - 1)).length)) (let v8:Int:=(((aZ.getD (aZ.length - 1) (0,0,[],[],())).2.2.2.1.length:Nat):Int)
 br (v8==0) (ob (aM n (40,at2,s1,at2,jD,e4,jO,aY,())) fun y9 =>some (y9.1,y9.2.1,y9.2.2.1,y9.2.2.2.1,y9.2.2.2.2.1,y9.2.2.2.2.2.1,y9.2.2.2.2.2.2.1,(aZ.take (aZ.length - 1))++[((aZ.getD (aZ.length - 1) (0,0,[],[],())).1,(aZ.getD (aZ.length - 1) (0,0,[],[],())).2.1,(aZ.getD (aZ.length - 1) (0,0,[],[],())).2.2.1,(aZ.getD (aZ.length - 1) (0,0,[],[],())).2.2.2.1,())],())) (chk (decide (((aZ.take (aZ.length - 1)).length+1) - 1 = (aZ.take (aZ.length - 1)).length)) (chk (decide (((aZ.take (aZ.length - 1)).length+1) - 1 = (aZ.take (aZ.length - 1)).length)) (ob (dU n (4,s1,at2,jD,e4,jO,(aZ.getD (aZ.length - 1) (0,0,[],[],())).2.2.2.1,aY,())) fun y10 =>chk (Nat.ble (((aZ.getD (aZ.length - 1) (0,0,[],[],())).2.2.1.length+([y10.1]:List (Int)).length) * 8) room) (let r11:List (Int):=(aZ.getD (aZ.length - 1) (0,0,[],[],())).2.2.1++[y10.1]
 chk (decide (((aZ.take (aZ.length - 1)).length+1) - 1 = (aZ.take (aZ.length - 1)).length)) (chk (decide (((aZ.take (aZ.length - 1)).length+1) - 1 = (aZ.take (aZ.length - 1)).length)) (some (true,y10.2.1,y10.2.2.1,y10.2.2.2.1,y10.2.2.2.2.1,y10.2.2.2.2.2.1,y10.2.2.2.2.2.2.2.1,(aZ.take (aZ.length - 1))++[((aZ.getD (aZ.length - 1) (0,0,[],[],())).1,(aZ.getD (aZ.length - 1) (0,0,[],[],())).2.1,r11,[],())],()))))))))))
def kM (n:Nat) (x:Er0):Option (Bool×Er0) :=ob (fJ n (x)) fun y8 =>br (!y8.1) (some (false,y8.2)) (let v9:Int:=IntKind.wrap .i64 (y8.2.2.1+1)
 some (true,y8.2.1,v9,y8.2.2.2))
def lJ (n:Nat) (x:Er0):Option (Bool×Er0) :=let s1:=x.1
 let at2:=x.2.1
 let jD:=x.2.2.1
 let e4:=x.2.2.2.1
 let jO:=x.2.2.2.2.1
 let aY:=x.2.2.2.2.2.1
 let aZ:=x.2.2.2.2.2.2.1
 br (jD==9) (ob (aM n (41,at2,s1,at2,jD,e4,jO,aY,())) fun y8 =>some (y8.1,y8.2.1,y8.2.2.1,y8.2.2.2.1,y8.2.2.2.2.1,y8.2.2.2.2.2.1,y8.2.2.2.2.2.2.1,aZ,())) (let v9:Int:=IntKind.wrap .i64 (jD+1)
 chk (Nat.ble ((aZ.length+([(at2,v9,[],[],())]:List (Int×Int×List Int×List Int×Unit)).length) * 64) room) (let v10:Int:=IntKind.wrap .i64 (at2+1)
 some (true,s1,v10,v9,e4,jO,aY,aZ++[(at2,v9,[],[],())],())))
def gL (n:Nat) (x:Er0):Option (Bool×Er0) :=let s1:=x.1
 let at2:=x.2.1
 let jD:=x.2.2.1
 let e4:=x.2.2.2.1
 let jO:=x.2.2.2.2.1
 let aY:=x.2.2.2.2.2.1
 let aZ:=x.2.2.2.2.2.2.1
 let v8:Int:=((aZ.length+0:Nat):Int)
 br (v8==1) (ob (aM n (41,at2,s1,at2,jD,e4,jO,aY,())) fun y9 =>some (y9.1,y9.2.1,y9.2.2.1,y9.2.2.2.1,y9.2.2.2.2.1,y9.2.2.2.2.2.1,y9.2.2.2.2.2.2.1,aZ,())) (ob (fJ n (x)) fun y10 =>let lK:=y10.2.2.2.2.2.2
 br (!y10.1) (some (false,y10.2)) (chk (Nat.ble 1 lK.2.1.length) (chk (Nat.ble 1 ((lK.2.1.take (lK.2.1.length - 1)).length+1)) (chk (decide (((lK.2.1.take (lK.2.1.length - 1)).length+1) - 1 = (lK.2.1.take (lK.2.1.length - 1)).length)) (let v11:Int:=(((lK.2.1.take (lK.2.1.length - 1)).length+1:Nat):Int)
 let v12:Int:=IntKind.wrap .i64 (v11 - 1)
 chk ((decide (0<=v12)&&decide (v12<=((lK.2.1.take (lK.2.1.length - 1)).length+1:Int)))) (chk (Nat.ble (v12.toNat) (lK.2.1.take (lK.2.1.length - 1)).length) (let v13:Int:=IntKind.wrap .i64 (y10.2.2.1+1)
 ob (dU n (5,y10.2.1,v13,y10.2.2.2.1,y10.2.2.2.2.1,y10.2.2.2.2.2.1,(lK.2.1.getD (lK.2.1.length - 1) (0,0,[],[],())).2.2.1,lK.1,())) fun y14 =>let v15:Int:=(lK.2.1.getD (lK.2.1.length - 1) (0,0,[],[],())).2.1
 ob (bN n (7,[0,0,0,0],y14.1,0,0,0,v15,y14.2.1,y14.2.2.1,y14.2.2.2.1,y14.2.2.2.2.1,y14.2.2.2.2.2.1,y14.2.2.2.2.2.2.2.1,())) fun y16 =>ob (fA n (y16.1,y16.2.1,y16.2.2.1,y16.2.2.2.1,y16.2.2.2.2.1,y16.2.2.2.2.2.1,y16.2.2.2.2.2.2.1,(lK.2.1.take (lK.2.1.length - 1)).take (v12.toNat),())) fun y17 =>some (y17))))))))
def aG (n:Nat) (g0:List UInt8×Int×Int×Int×Int×List (NdT)×List (Int×Int×List (Int)×List (Int)×Unit)×Unit->Option (Bool×Er0)) (x8:Er0):Option (Bool×Er0) :=let s9:=x8.1
 let zRv:=x8.2.1
 br (decide (zRv<(s9.length:Int))) (chk (inB zRv s9.length) (let v16:Int:=((bE 0 s9 zRv).toNat:Int)
 br (v16==94||(v16==36||(v16==42||(v16==43||(v16==63||(v16==123||(v16==46||(v16==91||(v16==92||(v16==124||(v16==40||(v16==41||false)))))))))))) (br (v16==94) (ob (iK n (x8)) fun y17 =>br (!y17.1) (some (false,y17.2)) (g0 (y17.2))) (br (v16==36) (ob (iK n (x8)) fun y18 =>br (!y18.1) (some (false,y18.2)) (g0 (y18.2))) (br (v16==42) (ob (gZ n (x8)) fun y19 =>br (!y19.1) (some (false,y19.2)) (g0 (y19.2))) (br (v16==43) (ob (gZ n (x8)) fun y20 =>br (!y20.1) (some (false,y20.2)) (g0 (y20.2))) (br (v16==63) (ob (gZ n (x8)) fun y21 =>br (!y21.1) (some (false,y21.2)) (g0 (y21.2))) (br (v16==123) (ob (gZ n (x8)) fun y22 =>br (!y22.1) (some (false,y22.2)) (g0 (y22.2))) (br (v16==46) (ob (mX n (x8)) fun y23 =>br (!y23.1) (some (false,y23.2)) (g0 (y23.2))) (br (v16==91) (ob (lI n (x8)) fun y24 =>br (!y24.1) (some (false,y24.2)) (g0 (y24.2))) (br (v16==92) (ob (jE n (x8)) fun y25 =>br (!y25.1) (some (false,y25.2)) (g0 (y25.2))) (br (v16==124) (ob (kM n (x8)) fun y26 =>br (!y26.1) (some (false,y26.2)) (g0 (y26.2))) (br (v16==40) (ob (lJ n (x8)) fun y27 =>br (!y27.1) (some (false,y27.2)) (g0 (y27.2))) (br (v16==41) (ob (gL n (x8)) fun y28 =>br (!y28.1) (some (false,y28.2)) (g0 (y28.2))) (none))))))))))))) (let v29:Int:=IntKind.wrap .i64 (zRv+1)
 let v30:Int:=IntKind.wrap .i64 (v29 - 1)
 chk ((decide (0<=v29)&&decide (v29<=(s9.length:Int))&&(decide (0<=v30)&&decide (v30<=v29)))) (let v31:List UInt8:=(s9.take v29.toNat).drop v30.toNat
 ob (rO n v31) fun y32 =>ob (dX n (y32,s9,v29,x8.2.2)) fun y33 =>br (!y33.1) (some (false,y33.2)) (g0 (y33.2)))))) (ob (fJ n (x8)) fun y34 =>let kT:=y34.2.2.2.2.2.2
 br (!y34.1) (some (false,y34.2)) (let v35:Int:=((kT.2.1.length+0:Nat):Int)
 br (decide (v35 > 1)) (chk (Nat.ble 1 (kT.2.1.length+0)) (chk (decide ((kT.2.1.length+0) - 1<kT.2.1.length)) (let v36:Int:=(kT.2.1.getD ((kT.2.1.length+0) - 1) (0,0,[],[],())).1
 ob (aM n (41,v36,y34.2.1,y34.2.2.1,y34.2.2.2.1,y34.2.2.2.2.1,y34.2.2.2.2.2.1,y34.2.2.2.2.2.2.1,())) fun y37 =>some (y37.1,y37.2.1,y37.2.2.1,y37.2.2.2.1,y37.2.2.2.2.1,y37.2.2.2.2.2.1,y37.2.2.2.2.2.2.1,kT.2.1,())))) (chk (Nat.ble 1 kT.2.1.length) (chk (Nat.ble 1 ((kT.2.1.take (kT.2.1.length - 1)).length+1)) (chk (decide (((kT.2.1.take (kT.2.1.length - 1)).length+1) - 1 = (kT.2.1.take (kT.2.1.length - 1)).length)) (ob (dU n (5,y34.2.1,y34.2.2.1,y34.2.2.2.1,y34.2.2.2.2.1,y34.2.2.2.2.2.1,(kT.2.1.getD (kT.2.1.length - 1) (0,0,[],[],())).2.2.1,kT.1,())) fun y38 =>let v39:Int:=((y38.2.2.2.2.2.2.2.1.length:Nat):Int)
 br (decide (v39<=120)) (some (true,y38.2.1,y38.2.2.1,y38.2.2.2.1,y38.2.2.2.2.1,y38.2.2.2.2.2.1,y38.2.2.2.2.2.2.2.1,kT.2.1.take (kT.2.1.length - 1),())) (ob (aM n (2,0,y38.2.1,y38.2.2.1,y38.2.2.2.1,y38.2.2.2.2.1,y38.2.2.2.2.2.1,y38.2.2.2.2.2.2.2.1,())) fun y40 =>some (y40.1,y40.2.1,y40.2.2.1,y40.2.2.2.1,y40.2.2.2.2.1,y40.2.2.2.2.2.1,y40.2.2.2.2.2.2.1,kT.2.1.take (kT.2.1.length - 1),()))))))))
def rD (n:Nat) (x:Er0):Option (Bool×Er0) :=fix (aG n) n (x)
def mM (n:Nat) (x:List UInt8):Option (List (NdT)×Int×Int) :=let s_0:=x
 br (s_0==[]) (some ([(0,([0,0,0,0],(0,(0,(0,(0,(0,())))))))],0,0)) (ob (rD n (s_0,0,0,0,0,[],[(0,0,[],[],())],())) fun y1 =>br (!y1.1) (some ([],y1.2.2.2.2.2.1,y1.2.2.2.2.1)) (some (y1.2.2.2.2.2.2.1,0,0)))
def xB (n:Nat) (x:List (Int)):Option (List UInt8) :=let s_0:=x
 ob (oD n s_0) fun y1 =>br ((y1.length:Int) != 1) (ob (Ag n s_0) fun y2 =>some y2) (br (y1==[10]) (ob (Ag n s_0) fun y3 =>some y3) (ob (strings_Contains n ([46,91,92,40,41,42,43,63,123,125,124,94,36],y1)) fun y4 =>br y4 (chk (decide ([92].length+y1.length<=aH)) (some ([92]++y1))) (some y1)))
def Sd (n:Nat) (x:Er5):Option (List UInt8) :=let n_0:=x
 ob (strconv_Itoa n n_0.2.2.2.2.1) fun y1 =>ob (strconv_Itoa n n_0.2.2.2.2.2.1) fun y2 =>br (n_0.2.2.2.2.2.1==(-1)) (br (n_0.2.2.2.2.1==0) (some [42]) (br (n_0.2.2.2.2.2.1==(-1)) (br (n_0.2.2.2.2.1==1) (some [43]) (br (n_0.2.2.2.2.2.1==1) (br (n_0.2.2.2.2.1==0) (some [63]) (br (n_0.2.2.2.2.2.1==(-1)) (chk (decide ([123].length+y1.length<=aH)) (chk (decide (([123]++y1).length+([44,125]:List UInt8).length<=aH)) (let v3:List UInt8:=([123]++y1)++[44,125]
 some v3))) (br (n_0.2.2.2.2.2.1==n_0.2.2.2.2.1) (chk (decide ([123].length+y1.length<=aH)) (chk (decide (([123]++y1).length+([125]:List UInt8).length<=aH)) (some (([123]++y1)++[125])))) (chk (decide ([123].length+y1.length<=aH)) (chk (decide (([123]++y1).length+([44]:List UInt8).length<=aH)) (chk (decide ((([123]++y1)++[44]).length+y2.length<=aH)) (let v4:List UInt8:=(([123]++y1)++[44])++y2
 chk (decide (v4.length+([125]:List UInt8).length<=aH)) (some (v4++[125]))))))))) (br (n_0.2.2.2.2.2.1==(-1)) (chk (decide ([123].length+y1.length<=aH)) (chk (decide (([123]++y1).length+([44,125]:List UInt8).length<=aH)) (let v5:List UInt8:=([123]++y1)++[44,125]
 some v5))) (br (n_0.2.2.2.2.2.1==n_0.2.2.2.2.1) (chk (decide ([123].length+y1.length<=aH)) (chk (decide (([123]++y1).length+([125]:List UInt8).length<=aH)) (some (([123]++y1)++[125])))) (chk (decide ([123].length+y1.length<=aH)) (chk (decide (([123]++y1).length+([44]:List UInt8).length<=aH)) (chk (decide ((([123]++y1)++[44]).length+y2.length<=aH)) (let v6:List UInt8:=(([123]++y1)++[44])++y2
 chk (decide (v6.length+([125]:List UInt8).length<=aH)) (some (v6++[125])))))))))) (br (n_0.2.2.2.2.2.1==1) (br (n_0.2.2.2.2.1==0) (some [63]) (br (n_0.2.2.2.2.2.1==(-1)) (chk (decide ([123].length+y1.length<=aH)) (chk (decide (([123]++y1).length+([44,125]:List UInt8).length<=aH)) (let v7:List UInt8:=([123]++y1)++[44,125]
 some v7))) (br (n_0.2.2.2.2.2.1==n_0.2.2.2.2.1) (chk (decide ([123].length+y1.length<=aH)) (chk (decide (([123]++y1).length+([125]:List UInt8).length<=aH)) (some (([123]++y1)++[125])))) (chk (decide ([123].length+y1.length<=aH)) (chk (decide (([123]++y1).length+([44]:List UInt8).length<=aH)) (chk (decide ((([123]++y1)++[44]).length+y2.length<=aH)) (let v8:List UInt8:=(([123]++y1)++[44])++y2
 chk (decide (v8.length+([125]:List UInt8).length<=aH)) (some (v8++[125]))))))))) (br (n_0.2.2.2.2.2.1==(-1)) (chk (decide ([123].length+y1.length<=aH)) (chk (decide (([123]++y1).length+([44,125]:List UInt8).length<=aH)) (let v9:List UInt8:=([123]++y1)++[44,125]
 some v9))) (br (n_0.2.2.2.2.2.1==n_0.2.2.2.2.1) (chk (decide ([123].length+y1.length<=aH)) (chk (decide (([123]++y1).length+([125]:List UInt8).length<=aH)) (some (([123]++y1)++[125])))) (chk (decide ([123].length+y1.length<=aH)) (chk (decide (([123]++y1).length+([44]:List UInt8).length<=aH)) (chk (decide ((([123]++y1)++[44]).length+y2.length<=aH)) (let v10:List UInt8:=(([123]++y1)++[44])++y2
 chk (decide (v10.length+([125]:List UInt8).length<=aH)) (some (v10++[125]))))))))))) (br (n_0.2.2.2.2.2.1==(-1)) (br (n_0.2.2.2.2.1==1) (some [43]) (br (n_0.2.2.2.2.2.1==1) (br (n_0.2.2.2.2.1==0) (some [63]) (br (n_0.2.2.2.2.2.1==(-1)) (chk (decide ([123].length+y1.length<=aH)) (chk (decide (([123]++y1).length+([44,125]:List UInt8).length<=aH)) (let v11:List UInt8:=([123]++y1)++[44,125]
 some v11))) (br (n_0.2.2.2.2.2.1==n_0.2.2.2.2.1) (chk (decide ([123].length+y1.length<=aH)) (chk (decide (([123]++y1).length+([125]:List UInt8).length<=aH)) (some (([123]++y1)++[125])))) (chk (decide ([123].length+y1.length<=aH)) (chk (decide (([123]++y1).length+([44]:List UInt8).length<=aH)) (chk (decide ((([123]++y1)++[44]).length+y2.length<=aH)) (let v12:List UInt8:=(([123]++y1)++[44])++y2
 chk (decide (v12.length+([125]:List UInt8).length<=aH)) (some (v12++[125]))))))))) (br (n_0.2.2.2.2.2.1==(-1)) (chk (decide ([123].length+y1.length<=aH)) (chk (decide (([123]++y1).length+([44,125]:List UInt8).length<=aH)) (let v13:List UInt8:=([123]++y1)++[44,125]
 some v13))) (br (n_0.2.2.2.2.2.1==n_0.2.2.2.2.1) (chk (decide ([123].length+y1.length<=aH)) (chk (decide (([123]++y1).length+([125]:List UInt8).length<=aH)) (some (([123]++y1)++[125])))) (chk (decide ([123].length+y1.length<=aH)) (chk (decide (([123]++y1).length+([44]:List UInt8).length<=aH)) (chk (decide ((([123]++y1)++[44]).length+y2.length<=aH)) (let v14:List UInt8:=(([123]++y1)++[44])++y2
 chk (decide (v14.length+([125]:List UInt8).length<=aH)) (some (v14++[125])))))))))) (br (n_0.2.2.2.2.2.1==1) (br (n_0.2.2.2.2.1==0) (some [63]) (br (n_0.2.2.2.2.2.1==(-1)) (chk (decide ([123].length+y1.length<=aH)) (chk (decide (([123]++y1).length+([44,125]:List UInt8).length<=aH)) (let v15:List UInt8:=([123]++y1)++[44,125]
 some v15))) (br (n_0.2.2.2.2.2.1==n_0.2.2.2.2.1) (chk (decide ([123].length+y1.length<=aH)) (chk (decide (([123]++y1).length+([125]:List UInt8).length<=aH)) (some (([123]++y1)++[125])))) (chk (decide ([123].length+y1.length<=aH)) (chk (decide (([123]++y1).length+([44]:List UInt8).length<=aH)) (chk (decide ((([123]++y1)++[44]).length+y2.length<=aH)) (let v16:List UInt8:=(([123]++y1)++[44])++y2
 chk (decide (v16.length+([125]:List UInt8).length<=aH)) (some (v16++[125]))))))))) (br (n_0.2.2.2.2.2.1==(-1)) (chk (decide ([123].length+y1.length<=aH)) (chk (decide (([123]++y1).length+([44,125]:List UInt8).length<=aH)) (let v17:List UInt8:=([123]++y1)++[44,125]
 some v17))) (br (n_0.2.2.2.2.2.1==n_0.2.2.2.2.1) (chk (decide ([123].length+y1.length<=aH)) (chk (decide (([123]++y1).length+([125]:List UInt8).length<=aH)) (some (([123]++y1)++[125])))) (chk (decide ([123].length+y1.length<=aH)) (chk (decide (([123]++y1).length+([44]:List UInt8).length<=aH)) (chk (decide ((([123]++y1)++[44]).length+y2.length<=aH)) (let v18:List UInt8:=(([123]++y1)++[44])++y2
 chk (decide (v18.length+([125]:List UInt8).length<=aH)) (some (v18++[125]))))))))))
def zBw (n:Nat) (g0:List (NdT)×List (NdT)×Int×Int×List (List UInt8)×Unit->Option (List UInt8×Int)) (x3:List (NdT)×List (NdT)×Int×Int×List (List UInt8)×Unit):Option (List UInt8×Int) :=let l_4:=x3.1
 let zA:=x3.2.1
 let Bq:=x3.2.2.1
 let eU:=x3.2.2.2.1
 let bI:=x3.2.2.2.2.1
 br (decide (eU<Bq)) (chk (inB eU zA.length) (let v9:Int×List (Int)×Int×Int×Int×Int×Int×Unit:=bE (Ty.dflt aD) zA eU
 br (v9.1==1) (ob (xB n v9.2.1) fun y10 =>chk ((inB eU (bI.length)&&decide (0+(bI.length)<=bI.length))) (chk (decide (0+eU.toNat<bI.length)) (let r11:List (List UInt8):=bI.set (0+eU.toNat) y10
 let v12:Int:=IntKind.wrap .i64 (eU+1)
 g0 (l_4,zA,Bq,v12,r11,())))) (br (v9.1==2) (chk ((inB eU (bI.length)&&decide (0+(bI.length)<=bI.length))) (chk (decide (0+eU.toNat<bI.length)) (let r13:List (List UInt8):=bI.set (0+eU.toNat) [94]
 let v14:Int:=IntKind.wrap .i64 (eU+1)
 g0 (l_4,zA,Bq,v14,r13,())))) (br (v9.1==3) (chk ((inB eU (bI.length)&&decide (0+(bI.length)<=bI.length))) (chk (decide (0+eU.toNat<bI.length)) (let r15:List (List UInt8):=bI.set (0+eU.toNat) [36]
 let v16:Int:=IntKind.wrap .i64 (eU+1)
 g0 (l_4,zA,Bq,v16,r15,())))) (br (v9.1==4) (chk ((inB v9.2.2.1 (bI.length)&&decide (0+(bI.length)<=bI.length))) (chk (decide (0+v9.2.2.1.toNat<bI.length)) (let v17:List UInt8:=bI.getD (0+v9.2.2.1.toNat) (Ty.dflt .str)
 chk ((inB v9.2.2.2.1 (bI.length)&&decide (0+(bI.length)<=bI.length))) (chk (decide (0+v9.2.2.2.1.toNat<bI.length)) (let v18:List UInt8:=bI.getD (0+v9.2.2.2.1.toNat) (Ty.dflt .str)
 chk (decide (v17.length+v18.length<=aH)) (chk ((inB eU (bI.length)&&decide (0+(bI.length)<=bI.length))) (chk (decide (0+eU.toNat<bI.length)) (let r19:List (List UInt8):=bI.set (0+eU.toNat) (v17++v18)
 let v20:Int:=IntKind.wrap .i64 (eU+1)
 g0 (l_4,zA,Bq,v20,r19,()))))))))) (br (v9.1==5) (chk ((inB v9.2.2.1 (bI.length)&&decide (0+(bI.length)<=bI.length))) (chk (decide (0+v9.2.2.1.toNat<bI.length)) (let v21:List UInt8:=bI.getD (0+v9.2.2.1.toNat) (Ty.dflt .str)
 chk (decide (v21.length+([124]:List UInt8).length<=aH)) (chk ((inB v9.2.2.2.1 (bI.length)&&decide (0+(bI.length)<=bI.length))) (chk (decide (0+v9.2.2.2.1.toNat<bI.length)) (let v22:List UInt8:=bI.getD (0+v9.2.2.2.1.toNat) (Ty.dflt .str)
 chk (decide ((v21++[124]).length+v22.length<=aH)) (chk ((inB eU (bI.length)&&decide (0+(bI.length)<=bI.length))) (chk (decide (0+eU.toNat<bI.length)) (let r23:List (List UInt8):=bI.set (0+eU.toNat) ((v21++[124])++v22)
 let v24:Int:=IntKind.wrap .i64 (eU+1)
 g0 (l_4,zA,Bq,v24,r23,())))))))))) (br (v9.1==6) (chk ((inB v9.2.2.1 (bI.length)&&decide (0+(bI.length)<=bI.length))) (chk (decide (0+v9.2.2.1.toNat<bI.length)) (let v25:List UInt8:=bI.getD (0+v9.2.2.1.toNat) (Ty.dflt .str)
 ob (Sd n v9) fun y26 =>chk (decide (v25.length+y26.length<=aH)) (chk ((inB eU (bI.length)&&decide (0+(bI.length)<=bI.length))) (chk (decide (0+eU.toNat<bI.length)) (let r27:List (List UInt8):=bI.set (0+eU.toNat) (v25++y26)
 let v28:Int:=IntKind.wrap .i64 (eU+1)
 g0 (l_4,zA,Bq,v28,r27,()))))))) (br (v9.1==7) (chk ((inB v9.2.2.1 (bI.length)&&decide (0+(bI.length)<=bI.length))) (chk (decide (0+v9.2.2.1.toNat<bI.length)) (let v29:List UInt8:=bI.getD (0+v9.2.2.1.toNat) (Ty.dflt .str)
 chk (decide ([40].length+v29.length<=aH)) (chk (decide (([40]++v29).length+([41]:List UInt8).length<=aH)) (chk ((inB eU (bI.length)&&decide (0+(bI.length)<=bI.length))) (chk (decide (0+eU.toNat<bI.length)) (let r30:List (List UInt8):=bI.set (0+eU.toNat) (([40]++v29)++[41])
 let v31:Int:=IntKind.wrap .i64 (eU+1)
 g0 (l_4,zA,Bq,v31,r30,())))))))) (br (v9.1==8) (ob (strconv_Itoa n v9.2.2.2.2.2.2.1) fun y32 =>chk (decide ([92].length+y32.length<=aH)) (chk ((inB eU (bI.length)&&decide (0+(bI.length)<=bI.length))) (chk (decide (0+eU.toNat<bI.length)) (let r33:List (List UInt8):=bI.set (0+eU.toNat) ([92]++y32)
 let v34:Int:=IntKind.wrap .i64 (eU+1)
 g0 (l_4,zA,Bq,v34,r33,()))))) (let v35:Int:=IntKind.wrap .i64 (eU+1)
 g0 (l_4,zA,Bq,v35,bI,()))))))))))) (let v36:Int:=IntKind.wrap .i64 ((l_4.length:Int) - 1)
 chk ((inB v36 (bI.length)&&decide (0+(bI.length)<=bI.length))) (chk (decide (0+v36.toNat<bI.length)) (let v37:List UInt8:=bI.getD (0+v36.toNat) (Ty.dflt .str)
 ob (mM n v37) fun y38 =>br (y38.2.2 != 0) (some ([],1)) (ob (Uu n y38.1) fun y39 =>ob (Uu n l_4) fun y40 =>br (!(y39==y40)) (some ([],1)) (some (v37,0))))))
def Sg (n:Nat) (x:List (NdT)):Option (List UInt8×Int) :=let l_0:=x
 ob (Rh n l_0) fun y1 =>br (!y1) (some ([],1)) (chk ((decide (0<=(l_0.length:Int))&&(decide ((l_0.length:Int) = (l_0.length:Int))&&Nat.ble ((l_0.length:Int).toNat * 16) room))) (let r2:List (List UInt8):=List.replicate (l_0.length:Int).toNat []
 fix (zBw n) n (l_0,l_0,(l_0.length:Int),0,r2,())))
def Br (n:Nat) (x:Unit):Option (Bool) :=ob (mM n [94,40,97,124,98,43,41,123,50,44,51,125,36,124,99,63]) fun y1 =>ob (Sg n y1.1) fun y2 =>ob (mM n [97,40,98]) fun y3 =>br (y1.2.2==0) (br (y2.2==0) (br (y1.2.1==0) (br (y2.1==[94,40,97,124,98,43,41,123,50,44,51,125,36,124,99,63]) (ob (Rk n y1.1) fun y4 =>br (y4==1) (br (y3.2.1==1) (some (y3.2.2==41)) (some false)) (some false)) (some false)) (some false)) (some false)) (some false)
def zB (n:Nat) (x:List (Bool)):Option (List UInt8) :=let a_0:=x
 ob (Bp n (a_0,[46,91,92,40,41,42,43,63,123,125,124,94,36])) fun y1 =>some y1
def Aq (n:Nat) (x:List (Int)):Option (Bool) :=let s_0:=x
 ob (xB n s_0) fun y1 =>ob (yT n s_0) fun y2 =>ob (zB n y2) fun y3 =>br (!(y1==y3)) (some false) (ob (Br n ()) fun y4 =>br (!y4) (some false) (ob (mM n y1) fun y5 =>ob (Gm n s_0) fun y6 =>br (y6==0) (some (y1==[])) (br (y5.2.2==0) (br ((y5.1.length:Int)==1) (chk (inB 0 y5.1.length) (let v7:Int×List (Int)×Int×Int×Int×Int×Int×Unit:=bE (Ty.dflt aD) y5.1 0
 br (v7.1==1) (chk (inB 0 y5.1.length) (let v8:Int×List (Int)×Int×Int×Int×Int×Int×Unit:=bE (Ty.dflt aD) y5.1 0
 some (Ty.beq (.arr 4 (.int .u64)) v8.2.1 s_0))) (some false))) (some false)) (some false))))
end Go.Dec
