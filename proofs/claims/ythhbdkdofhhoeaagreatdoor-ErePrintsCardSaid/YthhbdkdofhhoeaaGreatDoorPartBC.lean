/- Part of a proof over this seat: a library of my own, and what it says of this seat. No statement is proved here. -/
import Derived.Test.YthhbdkdofhhoeaaGreatDoorPartAL
import Derived.Test.YthhbdkdofhhoeaaGreatDoorPartAW
import Derived.Test.YthhbdkdofhhoeaaGreatDoorPartAQ
namespace Go.Dec
set_option linter.unusedVariables false
abbrev Er0:Type:=List UInt8 × Int × Int × Int × Int × List (NdT) × List (Int × Int × List (Int) × List (Int) × Unit) × Unit
abbrev Er1:Type:=List (NdT) × Int × Int × Int × Unit
abbrev Er2:Type:=Int × Int × List (Int) × List (NdT) × Unit
abbrev Er3:Type:=Int × Int × List (NdT) × Unit
abbrev Er4:Type:=List UInt8 × Int × (Er1) × Int
abbrev Er5:Type:=Int × List (Int) × Int × Int × Int × Int × Int × Unit
abbrev Er6:Type:=List UInt8 × Int × Int × List (NdT) × Int × Int × Int × Int × Er2
abbrev Er7:Type:=List UInt8 × Int × Int × Value × Er3
abbrev Er8:Type:=Int × List UInt8 × Int × Int × Value × Er2
abbrev Er9:Type:=List UInt8 × Int × Int × Er3
def nH (n:Nat) (x:Er7):Option (Bool×Er7) :=let s1:=x.1
 let at2:=x.2.1
 br (decide (at2<(s1.length:Int))) (chk (inB at2 s1.length) (let v8:Int:=((aR 0 s1 at2).toNat:Int)
 ob (strings_IndexByte n ([42,43,63,123],v8)) fun y9 =>some ((decide (y9≥0)),x))) (some (false,x))
def dH(n:Nat)(x:Er9):Option (Bool × Er9):=match nH n (x.1,x.2.1,x.2.2.1,Value.nilFunc,x.2.2.2) with|some y=>some (y.1,y.2.1,y.2.2.1,y.2.2.2.1,y.2.2.2.2.2)|none=>none
def sQ (n:Nat) (x:Int×Int×Er7):Option (Bool×Er7) :=let e_1:=x.1
 let rT:=x.2.1
 let s3:=x.2.2.1
 let at4:=x.2.2.2.1
 let zWo:=x.2.2.2.2.1
 let yUk:=x.2.2.2.2.2.1
 let yZt:=x.2.2.2.2.2.2.2.2.1
 some (false,s3,at4,zWo,yUk,e_1,rT,yZt,())
def aV(n:Nat)(x:Int × Int × Er9):Option (Bool × Er9):=match sQ n (x.1,x.2.1,x.2.2.1,x.2.2.2.1,x.2.2.2.2.1,Value.nilFunc,x.2.2.2.2.2) with|some y=>some (y.1,y.2.1,y.2.2.1,y.2.2.2.1,y.2.2.2.2.2)|none=>none
def iJ (n:Nat) (x:Int×List (Int)×Int×Int×Int×Int×Int×Er7):Option (Int×Er7) :=let n_1:=x.1
 let n_2:=x.2.1
 let n_3:=x.2.2.1
 let n_4:=x.2.2.2.1
 let n_5:=x.2.2.2.2.1
 let n_6:=x.2.2.2.2.2.1
 let n_7:=x.2.2.2.2.2.2.1
 let s8:=x.2.2.2.2.2.2.2.1
 let at9:=x.2.2.2.2.2.2.2.2.1
 let zEf:=x.2.2.2.2.2.2.2.2.2.1
 let yQp:=x.2.2.2.2.2.2.2.2.2.2.1
 let e12:=x.2.2.2.2.2.2.2.2.2.2.2.1
 let yQq:=x.2.2.2.2.2.2.2.2.2.2.2.2.1
 let yPd:=x.2.2.2.2.2.2.2.2.2.2.2.2.2.1
 chk (Nat.ble ((yPd.length+([(n_1,(n_2,(n_3,(n_4,(n_5,(n_6,(n_7,())))))))]:List (NdT)).length) * 80) room) (let r15:List (NdT):=yPd++[(n_1,(n_2,(n_3,(n_4,(n_5,(n_6,(n_7,())))))))]
 let v16:Int:=((r15.length:Nat):Int)
 let v17:Int:=IntKind.wrap .i64 (v16 - 1)
 some (v17,s8,at9,zEf,yQp,e12,yQq,r15,()))
def cO(n:Nat)(x:Int × List (Int) × Int × Int × Int × Int × Int × Er9):Option (Int × Er9):=match iJ n (x.1,x.2.1,x.2.2.1,x.2.2.2.1,x.2.2.2.2.1,x.2.2.2.2.2.1,x.2.2.2.2.2.2.1,x.2.2.2.2.2.2.2.1,x.2.2.2.2.2.2.2.2.1,x.2.2.2.2.2.2.2.2.2.1,Value.nilFunc,x.2.2.2.2.2.2.2.2.2.2) with|some y=>some (y.1,y.2.1,y.2.2.1,y.2.2.2.1,y.2.2.2.2.2)|none=>none
def zP (n:Nat) (x:List UInt8):Option (Int) :=let s_0:=x
 ob (Bn n s_0) fun y1 =>br (!(!y1.2)) (some (-1)) (br (decide ((s_0.length:Int) > 3)) (some (-1)) (chk (inB 0 s_0.length) (let v2:Int:=((aR 0 s_0 0).toNat:Int)
 br (decide (v2 < 48)) (some (-1)) (chk (inB 0 s_0.length) (let v3:Int:=((aR 0 s_0 0).toNat:Int)
 br (decide (v3 > 57)) (some (-1)) (some y1.1))))))
def Pj(n:Nat)(x:List UInt8):Option (Int × Int × Bool):=
 let s_0:List UInt8:=x
 ob (strings_Cut n (s_0,[44])) λy1 =>
 ob (zP n y1.1) λy2 =>
 br y1.2.2 (
  ob (zP n y1.2.1) λy3 =>
  br (y2==(-1)) (
   some (0,0,false)) (
   br y1.2.2 (
    br (y3==(-1)) (
     br (!(y1.2.1==[])) (
      some (0,0,false)) (
      br (decide (y2>255)) (
       some (0,0,false)) (
       br (decide (y3>255)) (
        some (0,0,false)) (
        br (y3 != (-1)) (
         br (decide (y3<(if 1>y2 then 1 else y2))) (
          some (0,0,false)) (
          some (y2,y3,true))) (
         some (y2,y3,true)))))) (
     br (decide (y2>255)) (
      some (0,0,false)) (
      br (decide (y3>255)) (
       some (0,0,false)) (
       br (y3 != (-1)) (
        br (decide (y3<(if 1>y2 then 1 else y2))) (
         some (0,0,false)) (
         some (y2,y3,true))) (
        some (y2,y3,true)))))) (
    br (decide (y2>255)) (
     some (0,0,false)) (
     br (decide (y3>255)) (
      some (0,0,false)) (
      br (y3 != (-1)) (
       br (decide (y3<(if 1>y2 then 1 else y2))) (
        some (0,0,false)) (
        some (y2,y3,true))) (
       some (y2,y3,true))))))) (
  br (y2==(-1)) (
   some (0,0,false)) (
   br y1.2.2 (
    br (y2==(-1)) (
     br (!(y1.2.1==[])) (
      some (0,0,false)) (
      br (decide (y2>255)) (
       some (0,0,false)) (
       br (decide (y2>255)) (
        some (0,0,false)) (
        br (y2 != (-1)) (
         br (decide (y2<(if 1>y2 then 1 else y2))) (
          some (0,0,false)) (
          some (y2,y2,true))) (
         some (y2,y2,true)))))) (
     br (decide (y2>255)) (
      some (0,0,false)) (
      br (decide (y2>255)) (
       some (0,0,false)) (
       br (y2 != (-1)) (
        br (decide (y2<(if 1>y2 then 1 else y2))) (
         some (0,0,false)) (
         some (y2,y2,true))) (
        some (y2,y2,true)))))) (
    br (decide (y2>255)) (
     some (0,0,false)) (
     br (decide (y2>255)) (
      some (0,0,false)) (
      br (y2 != (-1)) (
       br (decide (y2<(if 1>y2 then 1 else y2))) (
        some (0,0,false)) (
        some (y2,y2,true))) (
       some (y2,y2,true)))))))
def gW (n:Nat) (x:Int×Er0):Option (Bool×Er0) :=let zEg:=x.1
 let s2:=x.2.1
 let at3:=x.2.2.1
 let zXd:=x.2.2.2.1
 let e5:=x.2.2.2.2.1
 let zXe:=x.2.2.2.2.2.1
 let yNe:=x.2.2.2.2.2.2.1
 let aM:=x.2.2.2.2.2.2.2.1
 ob (dH n (s2,at3,zXd,e5,zXe,yNe,())) fun y9 =>br (!y9.1) (chk (Nat.ble 1 aM.length) (chk (Nat.ble 1 ((aM.take (aM.length - 1)).length+1)) (chk (Nat.ble 1 ((aM.take (aM.length - 1)).length+1)) (chk (decide (((aM.take (aM.length - 1)).length+1) - 1 = (aM.take (aM.length - 1)).length)) (chk (Nat.ble (((aM.getD (aM.length - 1) (0,0,[],[],())).2.2.2.1.length+([zEg]:List (Int)).length) * 8) room) (let r10:List (Int):=(aM.getD (aM.length - 1) (0,0,[],[],())).2.2.2.1++[zEg]
 chk (decide (((aM.take (aM.length - 1)).length+1) - 1 = (aM.take (aM.length - 1)).length)) (some (true,y9.2.1,y9.2.2.1,y9.2.2.2.1,y9.2.2.2.2.1,y9.2.2.2.2.2.1,y9.2.2.2.2.2.2.1,(aM.take (aM.length - 1))++[((aM.getD (aM.length - 1) (0,0,[],[],())).1,(aM.getD (aM.length - 1) (0,0,[],[],())).2.1,(aM.getD (aM.length - 1) (0,0,[],[],())).2.2.1,r10,())],())))))))) (let v11:Int:=IntKind.wrap .i64 (y9.2.2.1+1)
 chk (inB at3 y9.2.1.length) (let v12:Int:=((aR 0 y9.2.1 at3).toNat:Int)
 br (v12==43) (ob (cO n (6,[0,0,0,0],zEg,0,1,(-1),0,y9.2.1,v11,y9.2.2.2)) fun y13 =>ob (dH n (y13.2)) fun y14 =>br y14.1 (ob (aV n (43,y14.2.2.1,y14.2)) fun y15 =>some (y15.1,y15.2.1,y15.2.2.1,y15.2.2.2.1,y15.2.2.2.2.1,y15.2.2.2.2.2.1,y15.2.2.2.2.2.2.1,aM,())) (chk (Nat.ble 1 aM.length) (chk (Nat.ble 1 ((aM.take (aM.length - 1)).length+1)) (chk (Nat.ble 1 ((aM.take (aM.length - 1)).length+1)) (chk (decide (((aM.take (aM.length - 1)).length+1) - 1 = (aM.take (aM.length - 1)).length)) (chk (Nat.ble (((aM.getD (aM.length - 1) (0,0,[],[],())).2.2.2.1.length+([y13.1]:List (Int)).length) * 8) room) (let r16:List (Int):=(aM.getD (aM.length - 1) (0,0,[],[],())).2.2.2.1++[y13.1]
 chk (decide (((aM.take (aM.length - 1)).length+1) - 1 = (aM.take (aM.length - 1)).length)) (some (true,y14.2.1,y14.2.2.1,y14.2.2.2.1,y14.2.2.2.2.1,y14.2.2.2.2.2.1,y14.2.2.2.2.2.2.1,(aM.take (aM.length - 1))++[((aM.getD (aM.length - 1) (0,0,[],[],())).1,(aM.getD (aM.length - 1) (0,0,[],[],())).2.1,(aM.getD (aM.length - 1) (0,0,[],[],())).2.2.1,r16,())],()))))))))) (br (v12==63) (ob (cO n (6,[0,0,0,0],zEg,0,0,1,0,y9.2.1,v11,y9.2.2.2)) fun y17 =>ob (dH n (y17.2)) fun y18 =>br y18.1 (ob (aV n (43,y18.2.2.1,y18.2)) fun y19 =>some (y19.1,y19.2.1,y19.2.2.1,y19.2.2.2.1,y19.2.2.2.2.1,y19.2.2.2.2.2.1,y19.2.2.2.2.2.2.1,aM,())) (chk (Nat.ble 1 aM.length) (chk (Nat.ble 1 ((aM.take (aM.length - 1)).length+1)) (chk (Nat.ble 1 ((aM.take (aM.length - 1)).length+1)) (chk (decide (((aM.take (aM.length - 1)).length+1) - 1 = (aM.take (aM.length - 1)).length)) (chk (Nat.ble (((aM.getD (aM.length - 1) (0,0,[],[],())).2.2.2.1.length+([y17.1]:List (Int)).length) * 8) room) (let r20:List (Int):=(aM.getD (aM.length - 1) (0,0,[],[],())).2.2.2.1++[y17.1]
 chk (decide (((aM.take (aM.length - 1)).length+1) - 1 = (aM.take (aM.length - 1)).length)) (some (true,y18.2.1,y18.2.2.1,y18.2.2.2.1,y18.2.2.2.2.1,y18.2.2.2.2.2.1,y18.2.2.2.2.2.2.1,(aM.take (aM.length - 1))++[((aM.getD (aM.length - 1) (0,0,[],[],())).1,(aM.getD (aM.length - 1) (0,0,[],[],())).2.1,(aM.getD (aM.length - 1) (0,0,[],[],())).2.2.1,r20,())],()))))))))) (br (v12==123) (chk ((decide (0<=v11)&&decide (v11<=(y9.2.1.length:Int)))) (ob (strings_Cut n (y9.2.1.drop v11.toNat,[125])) fun y21 =>ob (Pj n y21.1) fun y22 =>br (!y21.2.2) (ob (aV n (43,at3,y9.2.1,v11,y9.2.2.2)) fun y23 =>some (y23.1,y23.2.1,y23.2.2.1,y23.2.2.2.1,y23.2.2.2.2.1,y23.2.2.2.2.2.1,y23.2.2.2.2.2.2.1,aM,())) (br (!y22.2.2) (ob (aV n (43,at3,y9.2.1,v11,y9.2.2.2)) fun y24 =>some (y24.1,y24.2.1,y24.2.2.1,y24.2.2.2.1,y24.2.2.2.2.1,y24.2.2.2.2.2.1,y24.2.2.2.2.2.2.1,aM,())) (let v25:Int:=IntKind.wrap .i64 ((y21.1.length:Int)+1)
 let v26:Int:=IntKind.wrap .i64 (v11+v25)
 ob (cO n (6,[0,0,0,0],zEg,0,y22.1,y22.2.1,0,y9.2.1,v26,y9.2.2.2)) fun y27 =>ob (dH n (y27.2)) fun y28 =>br y28.1 (ob (aV n (43,y28.2.2.1,y28.2)) fun y29 =>some (y29.1,y29.2.1,y29.2.2.1,y29.2.2.2.1,y29.2.2.2.2.1,y29.2.2.2.2.2.1,y29.2.2.2.2.2.2.1,aM,())) (chk (Nat.ble 1 aM.length) (chk (Nat.ble 1 ((aM.take (aM.length - 1)).length+1)) (chk (Nat.ble 1 ((aM.take (aM.length - 1)).length+1)) (chk (decide (((aM.take (aM.length - 1)).length+1) - 1 = (aM.take (aM.length - 1)).length)) (chk (Nat.ble (((aM.getD (aM.length - 1) (0,0,[],[],())).2.2.2.1.length+([y27.1]:List (Int)).length) * 8) room) (let r30:List (Int):=(aM.getD (aM.length - 1) (0,0,[],[],())).2.2.2.1++[y27.1]
 chk (decide (((aM.take (aM.length - 1)).length+1) - 1 = (aM.take (aM.length - 1)).length)) (some (true,y28.2.1,y28.2.2.1,y28.2.2.2.1,y28.2.2.2.2.1,y28.2.2.2.2.2.1,y28.2.2.2.2.2.2.1,(aM.take (aM.length - 1))++[((aM.getD (aM.length - 1) (0,0,[],[],())).1,(aM.getD (aM.length - 1) (0,0,[],[],())).2.1,(aM.getD (aM.length - 1) (0,0,[],[],())).2.2.1,r30,())],())))))))))))) (ob (cO n (6,[0,0,0,0],zEg,0,0,(-1),0,y9.2.1,v11,y9.2.2.2)) fun y31 =>ob (dH n (y31.2)) fun y32 =>br y32.1 (ob (aV n (43,y32.2.2.1,y32.2)) fun y33 =>some (y33.1,y33.2.1,y33.2.2.1,y33.2.2.2.1,y33.2.2.2.2.1,y33.2.2.2.2.2.1,y33.2.2.2.2.2.2.1,aM,())) (chk (Nat.ble 1 aM.length) (chk (Nat.ble 1 ((aM.take (aM.length - 1)).length+1)) (chk (Nat.ble 1 ((aM.take (aM.length - 1)).length+1)) (chk (decide (((aM.take (aM.length - 1)).length+1) - 1 = (aM.take (aM.length - 1)).length)) (chk (Nat.ble (((aM.getD (aM.length - 1) (0,0,[],[],())).2.2.2.1.length+([y31.1]:List (Int)).length) * 8) room) (let r34:List (Int):=(aM.getD (aM.length - 1) (0,0,[],[],())).2.2.2.1++[y31.1]
 chk (decide (((aM.take (aM.length - 1)).length+1) - 1 = (aM.take (aM.length - 1)).length)) (some (true,y32.2.1,y32.2.2.1,y32.2.2.2.1,y32.2.2.2.2.1,y32.2.2.2.2.2.1,y32.2.2.2.2.2.2.1,(aM.take (aM.length - 1))++[((aM.getD (aM.length - 1) (0,0,[],[],())).1,(aM.getD (aM.length - 1) (0,0,[],[],())).2.1,(aM.getD (aM.length - 1) (0,0,[],[],())).2.2.1,r34,())],())))))))))))))
def kD (n:Nat) (x:Er0):Option (Bool×Er0) :=let s1:=x.1
 let at2:=x.2.1
 let lH:=x.2.2.1
 let e4:=x.2.2.2.1
 let mE:=x.2.2.2.2.1
 let bE:=x.2.2.2.2.2.1
 let bH:=x.2.2.2.2.2.2.1
 chk (inB at2 s1.length) (let v8:Int:=((aR 0 s1 at2).toNat:Int)
 br (v8==36) (let v9:Int:=IntKind.wrap .i64 (at2+1)
 ob (dH n (s1,v9,lH,e4,mE,bE,())) fun y10 =>br y10.1 (ob (aV n (43,y10.2.2.1,y10.2)) fun y11 =>some (y11.1,y11.2.1,y11.2.2.1,y11.2.2.2.1,y11.2.2.2.2.1,y11.2.2.2.2.2.1,y11.2.2.2.2.2.2.1,bH,())) (ob (cO n (3,[0,0,0,0],0,0,0,0,0,y10.2)) fun y12 =>ob (gW n (y12.1,y12.2.1,y12.2.2.1,y12.2.2.2.1,y12.2.2.2.2.1,y12.2.2.2.2.2.1,y12.2.2.2.2.2.2.1,bH,())) fun y13 =>some (y13))) (let v14:Int:=IntKind.wrap .i64 (at2+1)
 ob (dH n (s1,v14,lH,e4,mE,bE,())) fun y15 =>br y15.1 (ob (aV n (43,y15.2.2.1,y15.2)) fun y16 =>some (y16.1,y16.2.1,y16.2.2.1,y16.2.2.2.1,y16.2.2.2.2.1,y16.2.2.2.2.2.1,y16.2.2.2.2.2.2.1,bH,())) (ob (cO n (2,[0,0,0,0],0,0,0,0,0,y15.2)) fun y17 =>ob (gW n (y17.1,y17.2.1,y17.2.2.1,y17.2.2.2.1,y17.2.2.2.2.1,y17.2.2.2.2.2.1,y17.2.2.2.2.2.2.1,bH,())) fun y18 =>some (y18))))
def jO (n:Nat) (x:Er0):Option (Bool×Er0) :=let s1:=x.1
 let at2:=x.2.1
 let lH:=x.2.2.1
 let e4:=x.2.2.2.1
 let mE:=x.2.2.2.2.1
 let bE:=x.2.2.2.2.2.1
 let bH:=x.2.2.2.2.2.2.1
 ob (aV n (43,at2,s1,at2,lH,e4,mE,bE,())) fun y8 =>some (y8.1,y8.2.1,y8.2.2.1,y8.2.2.2.1,y8.2.2.2.2.1,y8.2.2.2.2.2.1,y8.2.2.2.2.2.2.1,bH,())
def fT (n:Nat) (x:List (Int)×Er0):Option (Bool×Er0) :=let s_1:=x.1
 let s2:=x.2.1
 let at3:=x.2.2.1
 let zXd:=x.2.2.2.1
 let e5:=x.2.2.2.2.1
 let zXe:=x.2.2.2.2.2.1
 let yNe:=x.2.2.2.2.2.2.1
 let aM:=x.2.2.2.2.2.2.2.1
 ob (cO n (1,s_1,0,0,0,0,0,s2,at3,zXd,e5,zXe,yNe,())) fun y9 =>ob (gW n (y9.1,y9.2.1,y9.2.2.1,y9.2.2.2.1,y9.2.2.2.2.1,y9.2.2.2.2.2.1,y9.2.2.2.2.2.2.1,aM,())) fun y10 =>some (y10)
def qI (n:Nat) (x:Er0):Option (Bool×Er0) :=let s1:=x.1
 let at2:=x.2.1
 let v8:Int:=IntKind.wrap .i64 (at2+1)
 ob (Nl n ([0,0,0,0])) fun y9 =>ob (fT n (y9,s1,v8,x.2.2)) fun y10 =>some (y10)
def oI (n:Nat) (x:Er0):Option (Bool×Er0) :=let s1:=x.1
 let at2:=x.2.1
 let lH:=x.2.2.1
 let e4:=x.2.2.2.1
 let mE:=x.2.2.2.2.1
 let bE:=x.2.2.2.2.2.1
 let bH:=x.2.2.2.2.2.2.1
 chk ((decide (0<=at2)&&decide (at2<=(s1.length:Int)))) (ob (tO n (s1.drop at2.toNat)) fun y8 =>br (y8.2.2 != 0) (ob (aV n (y8.2.2,at2,s1,at2,lH,e4,mE,bE,())) fun y9 =>some (y9.1,y9.2.1,y9.2.2.1,y9.2.2.2.1,y9.2.2.2.2.1,y9.2.2.2.2.2.1,y9.2.2.2.2.2.2.1,bH,())) (let v10:Int:=IntKind.wrap .i64 (at2+y8.2.1)
 ob (fT n (y8.1,s1,v10,x.2.2)) fun y11 =>some (y11)))
def lI (n:Nat) (x:Er0):Option (Bool×Er0) :=let s1:=x.1
 let at2:=x.2.1
 let lH:=x.2.2.1
 let e4:=x.2.2.2.1
 let mE:=x.2.2.2.2.1
 let bE:=x.2.2.2.2.2.1
 let bH:=x.2.2.2.2.2.2.1
 let v8:Int:=IntKind.wrap .i64 (at2+1)
 br (v8==(s1.length:Int)) (ob (aV n (40,at2,s1,at2,lH,e4,mE,bE,())) fun y9 =>some (y9.1,y9.2.1,y9.2.2.1,y9.2.2.2.1,y9.2.2.2.2.1,y9.2.2.2.2.2.1,y9.2.2.2.2.2.2.1,bH,())) (let v10:Int:=IntKind.wrap .i64 (at2+1)
 chk (inB v10 s1.length) (let v11:Int:=((aR 0 s1 v10).toNat:Int)
 let v12:Int:=IntKind.wrap .i64 (at2+2)
 br (v11==110) (ob (wI n [10]) fun y13 =>ob (fT n (y13,s1,v12,x.2.2)) fun y14 =>some (y14)) (ob (strings_IndexByte n ([46,91,92,40,41,42,43,63,123,125,124,94,36,47],v11)) fun y15 =>br (decide (y15≥0)) (ob (eB n (v11,v11)) fun y16 =>ob (fT n (y16,s1,v12,x.2.2)) fun y17 =>some (y17)) (br (decide (v11≥49)) (br (decide (v11<=57)) (ob (aV n (44,at2,s1,v12,lH,e4,mE,bE,())) fun y18 =>some (y18.1,y18.2.1,y18.2.2.1,y18.2.2.2.1,y18.2.2.2.2.1,y18.2.2.2.2.2.1,y18.2.2.2.2.2.2.1,bH,())) (ob (aV n (40,at2,s1,v12,lH,e4,mE,bE,())) fun y19 =>some (y19.1,y19.2.1,y19.2.2.1,y19.2.2.2.1,y19.2.2.2.2.1,y19.2.2.2.2.2.1,y19.2.2.2.2.2.2.1,bH,()))) (ob (aV n (40,at2,s1,v12,lH,e4,mE,bE,())) fun y20 =>some (y20.1,y20.2.1,y20.2.2.1,y20.2.2.2.1,y20.2.2.2.2.1,y20.2.2.2.2.2.1,y20.2.2.2.2.2.2.1,bH,()))))))
def gZ (n:Nat) (g0:Int×Int×Int×List UInt8×Int×Int×Value×Int×Int×List (Int)×List (NdT)×Unit->Option (Er8)) (x15:Int×Int×Er8):Option (Er8) :=let yBs:=x15.1
 let yIv:=x15.2.1
 let zXf:=x15.2.2.1
 let s19:=x15.2.2.2.1
 let yZu:=x15.2.2.2.2.1
 let yQr:=x15.2.2.2.2.2.1
 let yQs:=x15.2.2.2.2.2.2.1
 let e23:=x15.2.2.2.2.2.2.2.1
 let yQt:=x15.2.2.2.2.2.2.2.2.1
 let Et:=x15.2.2.2.2.2.2.2.2.2.1
 let yXe:=x15.2.2.2.2.2.2.2.2.2.2.1
 br (decide (zXf≥0)) (chk ((inB zXf (Et.length)&&decide (0+(Et.length)<=Et.length))) (chk (decide (0+zXf.toNat<Et.length)) (let v27:Int:=Et.getD (0+zXf.toNat) (Ty.dflt (.int .i64))
 ob (iJ n (yBs,[0,0,0,0],v27,yIv,0,0,0,s19,yZu,yQr,yQs,e23,yQt,yXe,())) fun y28 =>let v29:Int:=IntKind.wrap .i64 (zXf - 1)
 g0 (yBs,y28.1,v29,y28.2.1,y28.2.2.1,y28.2.2.2.1,y28.2.2.2.2.1,y28.2.2.2.2.2.1,y28.2.2.2.2.2.2.1,Et,y28.2.2.2.2.2.2.2.1,())))) (some (yIv,x15.2.2.2))
def nI (n:Nat) (x:Er8):Option (Er8) :=let yUl:=x.1
 let bU:=x.2.2.2.2.2.2.2.1
 let v10:Int:=((bU.length:Nat):Int)
 let v11:Int:=IntKind.wrap .i64 (v10 - 1)
 chk ((inB v11 (bU.length)&&decide (0+(bU.length)<=bU.length))) (chk (decide (0+v11.toNat<bU.length)) (let v12:Int:=bU.getD (0+v11.toNat) (Ty.dflt (.int .i64))
 let v13:Int:=((bU.length:Nat):Int)
 let v14:Int:=IntKind.wrap .i64 (v13 - 2)
 fix (gZ n) n (yUl,v12,v14,x.2)))
def fJ(n:Nat)(x:Int × List UInt8 × Int × Int × Er2):Option (Int × List UInt8 × Int × Int × Er2):=match nI n (x.1,x.2.1,x.2.2.1,x.2.2.2.1,Value.nilFunc,x.2.2.2.2) with|some y=>some (y.1,y.2.1,y.2.2.1,y.2.2.2.1,y.2.2.2.2.2)|none=>none
def iK (n:Nat) (x:Er0):Option (Bool×Er0) :=let s1:=x.1
 let at2:=x.2.1
 let lH:=x.2.2.1
 let e4:=x.2.2.2.1
 let mE:=x.2.2.2.2.1
 let bE:=x.2.2.2.2.2.1
 let bH:=x.2.2.2.2.2.2.1
 chk (Nat.ble 1 bH.length) (chk (Nat.ble 1 ((bH.take (bH.length - 1)).length+1)) (chk (decide (((bH.take (bH.length - 1)).length+1) - 1 = (bH.take (bH.length - 1)).length)) (let v8:Int:=(((bH.getD (bH.length - 1) (0,0,[],[],())).2.2.2.1.length:Nat):Int)
 br (v8==0) (ob (aV n (40,at2,s1,at2,lH,e4,mE,bE,())) fun y9 =>some (y9.1,y9.2.1,y9.2.2.1,y9.2.2.2.1,y9.2.2.2.2.1,y9.2.2.2.2.2.1,y9.2.2.2.2.2.2.1,(bH.take (bH.length - 1))++[((bH.getD (bH.length - 1) (0,0,[],[],())).1,(bH.getD (bH.length - 1) (0,0,[],[],())).2.1,(bH.getD (bH.length - 1) (0,0,[],[],())).2.2.1,(bH.getD (bH.length - 1) (0,0,[],[],())).2.2.2.1,())],())) (chk (decide (((bH.take (bH.length - 1)).length+1) - 1 = (bH.take (bH.length - 1)).length)) (chk (decide (((bH.take (bH.length - 1)).length+1) - 1 = (bH.take (bH.length - 1)).length)) (ob (fJ n (4,s1,at2,lH,e4,mE,(bH.getD (bH.length - 1) (0,0,[],[],())).2.2.2.1,bE,())) fun y10 =>chk (Nat.ble (((bH.getD (bH.length - 1) (0,0,[],[],())).2.2.1.length+([y10.1]:List (Int)).length) * 8) room) (let r11:List (Int):=(bH.getD (bH.length - 1) (0,0,[],[],())).2.2.1++[y10.1]
 chk (decide (((bH.take (bH.length - 1)).length+1) - 1 = (bH.take (bH.length - 1)).length)) (chk (decide (((bH.take (bH.length - 1)).length+1) - 1 = (bH.take (bH.length - 1)).length)) (some (true,y10.2.1,y10.2.2.1,y10.2.2.2.1,y10.2.2.2.2.1,y10.2.2.2.2.2.1,y10.2.2.2.2.2.2.2.1,(bH.take (bH.length - 1))++[((bH.getD (bH.length - 1) (0,0,[],[],())).1,(bH.getD (bH.length - 1) (0,0,[],[],())).2.1,r11,[],())],()))))))))))
def nJ (n:Nat) (x:Er0):Option (Bool×Er0) :=ob (iK n (x)) fun y8 =>br (!y8.1) (some (false,y8.2)) (let v9:Int:=IntKind.wrap .i64 (y8.2.2.1+1)
 some (true,y8.2.1,v9,y8.2.2.2))
def oJ (n:Nat) (x:Er0):Option (Bool×Er0) :=let s1:=x.1
 let at2:=x.2.1
 let lH:=x.2.2.1
 let e4:=x.2.2.2.1
 let mE:=x.2.2.2.2.1
 let bE:=x.2.2.2.2.2.1
 let bH:=x.2.2.2.2.2.2.1
 br (lH==9) (ob (aV n (41,at2,s1,at2,lH,e4,mE,bE,())) fun y8 =>some (y8.1,y8.2.1,y8.2.2.1,y8.2.2.2.1,y8.2.2.2.2.1,y8.2.2.2.2.2.1,y8.2.2.2.2.2.2.1,bH,())) (let v9:Int:=IntKind.wrap .i64 (lH+1)
 chk (Nat.ble ((bH.length+([(at2,v9,[],[],())]:List (Int×Int×List Int×List Int×Unit)).length) * 64) room) (let v10:Int:=IntKind.wrap .i64 (at2+1)
 some (true,s1,v10,v9,e4,mE,bE,bH++[(at2,v9,[],[],())],())))
def jG (n:Nat) (x:Er0):Option (Bool×Er0) :=let s1:=x.1
 let at2:=x.2.1
 let lH:=x.2.2.1
 let e4:=x.2.2.2.1
 let mE:=x.2.2.2.2.1
 let bE:=x.2.2.2.2.2.1
 let bH:=x.2.2.2.2.2.2.1
 let v8:Int:=((bH.length+0:Nat):Int)
 br (v8==1) (ob (aV n (41,at2,s1,at2,lH,e4,mE,bE,())) fun y9 =>some (y9.1,y9.2.1,y9.2.2.1,y9.2.2.2.1,y9.2.2.2.2.1,y9.2.2.2.2.2.1,y9.2.2.2.2.2.2.1,bH,())) (ob (iK n (x)) fun y10 =>let oK:=y10.2.2.2.2.2.2
 br (!y10.1) (some (false,y10.2)) (chk (Nat.ble 1 oK.2.1.length) (chk (Nat.ble 1 ((oK.2.1.take (oK.2.1.length - 1)).length+1)) (chk (decide (((oK.2.1.take (oK.2.1.length - 1)).length+1) - 1 = (oK.2.1.take (oK.2.1.length - 1)).length)) (let v11:Int:=(((oK.2.1.take (oK.2.1.length - 1)).length+1:Nat):Int)
 let v12:Int:=IntKind.wrap .i64 (v11 - 1)
 chk ((decide (0<=v12)&&decide (v12<=((oK.2.1.take (oK.2.1.length - 1)).length+1:Int)))) (chk (Nat.ble (v12.toNat) (oK.2.1.take (oK.2.1.length - 1)).length) (let v13:Int:=IntKind.wrap .i64 (y10.2.2.1+1)
 ob (fJ n (5,y10.2.1,v13,y10.2.2.2.1,y10.2.2.2.2.1,y10.2.2.2.2.2.1,(oK.2.1.getD (oK.2.1.length - 1) (0,0,[],[],())).2.2.1,oK.1,())) fun y14 =>let v15:Int:=(oK.2.1.getD (oK.2.1.length - 1) (0,0,[],[],())).2.1
 ob (cO n (7,[0,0,0,0],y14.1,0,0,0,v15,y14.2.1,y14.2.2.1,y14.2.2.2.1,y14.2.2.2.2.1,y14.2.2.2.2.2.1,y14.2.2.2.2.2.2.2.1,())) fun y16 =>ob (gW n (y16.1,y16.2.1,y16.2.2.1,y16.2.2.2.1,y16.2.2.2.2.1,y16.2.2.2.2.2.1,y16.2.2.2.2.2.2.1,(oK.2.1.take (oK.2.1.length - 1)).take (v12.toNat),())) fun y17 =>some (y17))))))))
def aJ (n:Nat) (g0:List UInt8×Int×Int×Int×Int×List (NdT)×List (Int×Int×List (Int)×List (Int)×Unit)×Unit->Option (Bool×Er0)) (x8:Er0):Option (Bool×Er0) :=let s9:=x8.1
 let zOs:=x8.2.1
 br (decide (zOs<(s9.length:Int))) (chk (inB zOs s9.length) (let v16:Int:=((aR 0 s9 zOs).toNat:Int)
 br (v16==94||(v16==36||(v16==42||(v16==43||(v16==63||(v16==123||(v16==46||(v16==91||(v16==92||(v16==124||(v16==40||(v16==41||false)))))))))))) (br (v16==94) (ob (kD n (x8)) fun y17 =>br (!y17.1) (some (false,y17.2)) (g0 (y17.2))) (br (v16==36) (ob (kD n (x8)) fun y18 =>br (!y18.1) (some (false,y18.2)) (g0 (y18.2))) (br (v16==42) (ob (jO n (x8)) fun y19 =>br (!y19.1) (some (false,y19.2)) (g0 (y19.2))) (br (v16==43) (ob (jO n (x8)) fun y20 =>br (!y20.1) (some (false,y20.2)) (g0 (y20.2))) (br (v16==63) (ob (jO n (x8)) fun y21 =>br (!y21.1) (some (false,y21.2)) (g0 (y21.2))) (br (v16==123) (ob (jO n (x8)) fun y22 =>br (!y22.1) (some (false,y22.2)) (g0 (y22.2))) (br (v16==46) (ob (qI n (x8)) fun y23 =>br (!y23.1) (some (false,y23.2)) (g0 (y23.2))) (br (v16==91) (ob (oI n (x8)) fun y24 =>br (!y24.1) (some (false,y24.2)) (g0 (y24.2))) (br (v16==92) (ob (lI n (x8)) fun y25 =>br (!y25.1) (some (false,y25.2)) (g0 (y25.2))) (br (v16==124) (ob (nJ n (x8)) fun y26 =>br (!y26.1) (some (false,y26.2)) (g0 (y26.2))) (br (v16==40) (ob (oJ n (x8)) fun y27 =>br (!y27.1) (some (false,y27.2)) (g0 (y27.2))) (br (v16==41) (ob (jG n (x8)) fun y28 =>br (!y28.1) (some (false,y28.2)) (g0 (y28.2))) (none))))))))))))) (let v29:Int:=IntKind.wrap .i64 (zOs+1)
 let v30:Int:=IntKind.wrap .i64 (v29 - 1)
 chk ((decide (0<=v29)&&decide (v29<=(s9.length:Int))&&(decide (0<=v30)&&decide (v30<=v29)))) (let v31:List UInt8:=(s9.take v29.toNat).drop v30.toNat
 ob (wI n v31) fun y32 =>ob (fT n (y32,s9,v29,x8.2.2)) fun y33 =>br (!y33.1) (some (false,y33.2)) (g0 (y33.2)))))) (ob (iK n (x8)) fun y34 =>let nP:=y34.2.2.2.2.2.2
 br (!y34.1) (some (false,y34.2)) (let v35:Int:=((nP.2.1.length+0:Nat):Int)
 br (decide (v35 > 1)) (chk (Nat.ble 1 (nP.2.1.length+0)) (chk (decide ((nP.2.1.length+0) - 1<nP.2.1.length)) (let v36:Int:=(nP.2.1.getD ((nP.2.1.length+0) - 1) (0,0,[],[],())).1
 ob (aV n (41,v36,y34.2.1,y34.2.2.1,y34.2.2.2.1,y34.2.2.2.2.1,y34.2.2.2.2.2.1,y34.2.2.2.2.2.2.1,())) fun y37 =>some (y37.1,y37.2.1,y37.2.2.1,y37.2.2.2.1,y37.2.2.2.2.1,y37.2.2.2.2.2.1,y37.2.2.2.2.2.2.1,nP.2.1,())))) (chk (Nat.ble 1 nP.2.1.length) (chk (Nat.ble 1 ((nP.2.1.take (nP.2.1.length - 1)).length+1)) (chk (decide (((nP.2.1.take (nP.2.1.length - 1)).length+1) - 1 = (nP.2.1.take (nP.2.1.length - 1)).length)) (ob (fJ n (5,y34.2.1,y34.2.2.1,y34.2.2.2.1,y34.2.2.2.2.1,y34.2.2.2.2.2.1,(nP.2.1.getD (nP.2.1.length - 1) (0,0,[],[],())).2.2.1,nP.1,())) fun y38 =>let v39:Int:=((y38.2.2.2.2.2.2.2.1.length:Nat):Int)
 br (decide (v39<=120)) (some (true,y38.2.1,y38.2.2.1,y38.2.2.2.1,y38.2.2.2.2.1,y38.2.2.2.2.2.1,y38.2.2.2.2.2.2.2.1,nP.2.1.take (nP.2.1.length - 1),())) (ob (aV n (2,0,y38.2.1,y38.2.2.1,y38.2.2.2.1,y38.2.2.2.2.1,y38.2.2.2.2.2.1,y38.2.2.2.2.2.2.2.1,())) fun y40 =>some (y40.1,y40.2.1,y40.2.2.1,y40.2.2.2.1,y40.2.2.2.2.1,y40.2.2.2.2.2.1,y40.2.2.2.2.2.2.1,nP.2.1.take (nP.2.1.length - 1),()))))))))
def vU (n:Nat) (x:Er0):Option (Bool×Er0) :=fix (aJ n) n (x)
def vC (n:Nat) (x:List UInt8):Option (List (NdT)×Int×Int) :=let s_0:=x
 br (s_0==[]) (some ([(0,([0,0,0,0],(0,(0,(0,(0,(0,())))))))],0,0)) (ob (vU n (s_0,0,0,0,0,[],[(0,0,[],[],())],())) fun y1 =>br (!y1.1) (some ([],y1.2.2.2.2.2.1,y1.2.2.2.2.1)) (some (y1.2.2.2.2.2.2.1,0,0)))
def Pk (n:Nat) (x:List (Int)):Option (List UInt8) :=let s_0:=x
 ob (sF n s_0) fun y1 =>br ((y1.length:Int) != 1) (ob (Hr n s_0) fun y2 =>some y2) (br (y1==[10]) (ob (Hr n s_0) fun y3 =>some y3) (ob (strings_Contains n ([46,91,92,40,41,42,43,63,123,125,124,94,36],y1)) fun y4 =>br y4 (chk (decide ([92].length+y1.length<=aG)) (some ([92]++y1))) (some y1)))
def Kg (n:Nat) (x:Er5):Option (List UInt8) :=let n_0:=x
 ob (strconv_Itoa n n_0.2.2.2.2.1) fun y1 =>ob (strconv_Itoa n n_0.2.2.2.2.2.1) fun y2 =>br (n_0.2.2.2.2.2.1==(-1)) (br (n_0.2.2.2.2.1==0) (some [42]) (br (n_0.2.2.2.2.2.1==(-1)) (br (n_0.2.2.2.2.1==1) (some [43]) (br (n_0.2.2.2.2.2.1==1) (br (n_0.2.2.2.2.1==0) (some [63]) (br (n_0.2.2.2.2.2.1==(-1)) (chk (decide ([123].length+y1.length<=aG)) (chk (decide (([123]++y1).length+([44,125]:List UInt8).length<=aG)) (let v3:List UInt8:=([123]++y1)++[44,125]
 some v3))) (br (n_0.2.2.2.2.2.1==n_0.2.2.2.2.1) (chk (decide ([123].length+y1.length<=aG)) (chk (decide (([123]++y1).length+([125]:List UInt8).length<=aG)) (some (([123]++y1)++[125])))) (chk (decide ([123].length+y1.length<=aG)) (chk (decide (([123]++y1).length+([44]:List UInt8).length<=aG)) (chk (decide ((([123]++y1)++[44]).length+y2.length<=aG)) (let v4:List UInt8:=(([123]++y1)++[44])++y2
 chk (decide (v4.length+([125]:List UInt8).length<=aG)) (some (v4++[125]))))))))) (br (n_0.2.2.2.2.2.1==(-1)) (chk (decide ([123].length+y1.length<=aG)) (chk (decide (([123]++y1).length+([44,125]:List UInt8).length<=aG)) (let v5:List UInt8:=([123]++y1)++[44,125]
 some v5))) (br (n_0.2.2.2.2.2.1==n_0.2.2.2.2.1) (chk (decide ([123].length+y1.length<=aG)) (chk (decide (([123]++y1).length+([125]:List UInt8).length<=aG)) (some (([123]++y1)++[125])))) (chk (decide ([123].length+y1.length<=aG)) (chk (decide (([123]++y1).length+([44]:List UInt8).length<=aG)) (chk (decide ((([123]++y1)++[44]).length+y2.length<=aG)) (let v6:List UInt8:=(([123]++y1)++[44])++y2
 chk (decide (v6.length+([125]:List UInt8).length<=aG)) (some (v6++[125])))))))))) (br (n_0.2.2.2.2.2.1==1) (br (n_0.2.2.2.2.1==0) (some [63]) (br (n_0.2.2.2.2.2.1==(-1)) (chk (decide ([123].length+y1.length<=aG)) (chk (decide (([123]++y1).length+([44,125]:List UInt8).length<=aG)) (let v7:List UInt8:=([123]++y1)++[44,125]
 some v7))) (br (n_0.2.2.2.2.2.1==n_0.2.2.2.2.1) (chk (decide ([123].length+y1.length<=aG)) (chk (decide (([123]++y1).length+([125]:List UInt8).length<=aG)) (some (([123]++y1)++[125])))) (chk (decide ([123].length+y1.length<=aG)) (chk (decide (([123]++y1).length+([44]:List UInt8).length<=aG)) (chk (decide ((([123]++y1)++[44]).length+y2.length<=aG)) (let v8:List UInt8:=(([123]++y1)++[44])++y2
 chk (decide (v8.length+([125]:List UInt8).length<=aG)) (some (v8++[125]))))))))) (br (n_0.2.2.2.2.2.1==(-1)) (chk (decide ([123].length+y1.length<=aG)) (chk (decide (([123]++y1).length+([44,125]:List UInt8).length<=aG)) (let v9:List UInt8:=([123]++y1)++[44,125]
 some v9))) (br (n_0.2.2.2.2.2.1==n_0.2.2.2.2.1) (chk (decide ([123].length+y1.length<=aG)) (chk (decide (([123]++y1).length+([125]:List UInt8).length<=aG)) (some (([123]++y1)++[125])))) (chk (decide ([123].length+y1.length<=aG)) (chk (decide (([123]++y1).length+([44]:List UInt8).length<=aG)) (chk (decide ((([123]++y1)++[44]).length+y2.length<=aG)) (let v10:List UInt8:=(([123]++y1)++[44])++y2
 chk (decide (v10.length+([125]:List UInt8).length<=aG)) (some (v10++[125]))))))))))) (br (n_0.2.2.2.2.2.1==(-1)) (br (n_0.2.2.2.2.1==1) (some [43]) (br (n_0.2.2.2.2.2.1==1) (br (n_0.2.2.2.2.1==0) (some [63]) (br (n_0.2.2.2.2.2.1==(-1)) (chk (decide ([123].length+y1.length<=aG)) (chk (decide (([123]++y1).length+([44,125]:List UInt8).length<=aG)) (let v11:List UInt8:=([123]++y1)++[44,125]
 some v11))) (br (n_0.2.2.2.2.2.1==n_0.2.2.2.2.1) (chk (decide ([123].length+y1.length<=aG)) (chk (decide (([123]++y1).length+([125]:List UInt8).length<=aG)) (some (([123]++y1)++[125])))) (chk (decide ([123].length+y1.length<=aG)) (chk (decide (([123]++y1).length+([44]:List UInt8).length<=aG)) (chk (decide ((([123]++y1)++[44]).length+y2.length<=aG)) (let v12:List UInt8:=(([123]++y1)++[44])++y2
 chk (decide (v12.length+([125]:List UInt8).length<=aG)) (some (v12++[125]))))))))) (br (n_0.2.2.2.2.2.1==(-1)) (chk (decide ([123].length+y1.length<=aG)) (chk (decide (([123]++y1).length+([44,125]:List UInt8).length<=aG)) (let v13:List UInt8:=([123]++y1)++[44,125]
 some v13))) (br (n_0.2.2.2.2.2.1==n_0.2.2.2.2.1) (chk (decide ([123].length+y1.length<=aG)) (chk (decide (([123]++y1).length+([125]:List UInt8).length<=aG)) (some (([123]++y1)++[125])))) (chk (decide ([123].length+y1.length<=aG)) (chk (decide (([123]++y1).length+([44]:List UInt8).length<=aG)) (chk (decide ((([123]++y1)++[44]).length+y2.length<=aG)) (let v14:List UInt8:=(([123]++y1)++[44])++y2
 chk (decide (v14.length+([125]:List UInt8).length<=aG)) (some (v14++[125])))))))))) (br (n_0.2.2.2.2.2.1==1) (br (n_0.2.2.2.2.1==0) (some [63]) (br (n_0.2.2.2.2.2.1==(-1)) (chk (decide ([123].length+y1.length<=aG)) (chk (decide (([123]++y1).length+([44,125]:List UInt8).length<=aG)) (let v15:List UInt8:=([123]++y1)++[44,125]
 some v15))) (br (n_0.2.2.2.2.2.1==n_0.2.2.2.2.1) (chk (decide ([123].length+y1.length<=aG)) (chk (decide (([123]++y1).length+([125]:List UInt8).length<=aG)) (some (([123]++y1)++[125])))) (chk (decide ([123].length+y1.length<=aG)) (chk (decide (([123]++y1).length+([44]:List UInt8).length<=aG)) (chk (decide ((([123]++y1)++[44]).length+y2.length<=aG)) (let v16:List UInt8:=(([123]++y1)++[44])++y2
 chk (decide (v16.length+([125]:List UInt8).length<=aG)) (some (v16++[125]))))))))) (br (n_0.2.2.2.2.2.1==(-1)) (chk (decide ([123].length+y1.length<=aG)) (chk (decide (([123]++y1).length+([44,125]:List UInt8).length<=aG)) (let v17:List UInt8:=([123]++y1)++[44,125]
 some v17))) (br (n_0.2.2.2.2.2.1==n_0.2.2.2.2.1) (chk (decide ([123].length+y1.length<=aG)) (chk (decide (([123]++y1).length+([125]:List UInt8).length<=aG)) (some (([123]++y1)++[125])))) (chk (decide ([123].length+y1.length<=aG)) (chk (decide (([123]++y1).length+([44]:List UInt8).length<=aG)) (chk (decide ((([123]++y1)++[44]).length+y2.length<=aG)) (let v18:List UInt8:=(([123]++y1)++[44])++y2
 chk (decide (v18.length+([125]:List UInt8).length<=aG)) (some (v18++[125]))))))))))
def eH (n:Nat) (g0:List (NdT)×List (NdT)×Int×Int×List (List UInt8)×Unit->Option (List UInt8×Int)) (x3:List (NdT)×List (NdT)×Int×Int×List (List UInt8)×Unit):Option (List UInt8×Int) :=let l_4:=x3.1
 let Fh:=x3.2.1
 let Je:=x3.2.2.1
 let gU:=x3.2.2.2.1
 let bU:=x3.2.2.2.2.1
 br (decide (gU<Je)) (chk (inB gU Fh.length) (let v9:Int×List (Int)×Int×Int×Int×Int×Int×Unit:=aR (Ty.dflt aD) Fh gU
 br (v9.1==1) (ob (Pk n v9.2.1) fun y10 =>chk ((inB gU (bU.length)&&decide (0+(bU.length)<=bU.length))) (chk (decide (0+gU.toNat<bU.length)) (let r11:List (List UInt8):=bU.set (0+gU.toNat) y10
 let v12:Int:=IntKind.wrap .i64 (gU+1)
 g0 (l_4,Fh,Je,v12,r11,())))) (br (v9.1==2) (chk ((inB gU (bU.length)&&decide (0+(bU.length)<=bU.length))) (chk (decide (0+gU.toNat<bU.length)) (let r13:List (List UInt8):=bU.set (0+gU.toNat) [94]
 let v14:Int:=IntKind.wrap .i64 (gU+1)
 g0 (l_4,Fh,Je,v14,r13,())))) (br (v9.1==3) (chk ((inB gU (bU.length)&&decide (0+(bU.length)<=bU.length))) (chk (decide (0+gU.toNat<bU.length)) (let r15:List (List UInt8):=bU.set (0+gU.toNat) [36]
 let v16:Int:=IntKind.wrap .i64 (gU+1)
 g0 (l_4,Fh,Je,v16,r15,())))) (br (v9.1==4) (chk ((inB v9.2.2.1 (bU.length)&&decide (0+(bU.length)<=bU.length))) (chk (decide (0+v9.2.2.1.toNat<bU.length)) (let v17:List UInt8:=bU.getD (0+v9.2.2.1.toNat) (Ty.dflt .str)
 chk ((inB v9.2.2.2.1 (bU.length)&&decide (0+(bU.length)<=bU.length))) (chk (decide (0+v9.2.2.2.1.toNat<bU.length)) (let v18:List UInt8:=bU.getD (0+v9.2.2.2.1.toNat) (Ty.dflt .str)
 chk (decide (v17.length+v18.length<=aG)) (chk ((inB gU (bU.length)&&decide (0+(bU.length)<=bU.length))) (chk (decide (0+gU.toNat<bU.length)) (let r19:List (List UInt8):=bU.set (0+gU.toNat) (v17++v18)
 let v20:Int:=IntKind.wrap .i64 (gU+1)
 g0 (l_4,Fh,Je,v20,r19,()))))))))) (br (v9.1==5) (chk ((inB v9.2.2.1 (bU.length)&&decide (0+(bU.length)<=bU.length))) (chk (decide (0+v9.2.2.1.toNat<bU.length)) (let v21:List UInt8:=bU.getD (0+v9.2.2.1.toNat) (Ty.dflt .str)
 chk (decide (v21.length+([124]:List UInt8).length<=aG)) (chk ((inB v9.2.2.2.1 (bU.length)&&decide (0+(bU.length)<=bU.length))) (chk (decide (0+v9.2.2.2.1.toNat<bU.length)) (let v22:List UInt8:=bU.getD (0+v9.2.2.2.1.toNat) (Ty.dflt .str)
 chk (decide ((v21++[124]).length+v22.length<=aG)) (chk ((inB gU (bU.length)&&decide (0+(bU.length)<=bU.length))) (chk (decide (0+gU.toNat<bU.length)) (let r23:List (List UInt8):=bU.set (0+gU.toNat) ((v21++[124])++v22)
 let v24:Int:=IntKind.wrap .i64 (gU+1)
 g0 (l_4,Fh,Je,v24,r23,())))))))))) (br (v9.1==6) (chk ((inB v9.2.2.1 (bU.length)&&decide (0+(bU.length)<=bU.length))) (chk (decide (0+v9.2.2.1.toNat<bU.length)) (let v25:List UInt8:=bU.getD (0+v9.2.2.1.toNat) (Ty.dflt .str)
 ob (Kg n v9) fun y26 =>chk (decide (v25.length+y26.length<=aG)) (chk ((inB gU (bU.length)&&decide (0+(bU.length)<=bU.length))) (chk (decide (0+gU.toNat<bU.length)) (let r27:List (List UInt8):=bU.set (0+gU.toNat) (v25++y26)
 let v28:Int:=IntKind.wrap .i64 (gU+1)
 g0 (l_4,Fh,Je,v28,r27,()))))))) (br (v9.1==7) (chk ((inB v9.2.2.1 (bU.length)&&decide (0+(bU.length)<=bU.length))) (chk (decide (0+v9.2.2.1.toNat<bU.length)) (let v29:List UInt8:=bU.getD (0+v9.2.2.1.toNat) (Ty.dflt .str)
 chk (decide ([40].length+v29.length<=aG)) (chk (decide (([40]++v29).length+([41]:List UInt8).length<=aG)) (chk ((inB gU (bU.length)&&decide (0+(bU.length)<=bU.length))) (chk (decide (0+gU.toNat<bU.length)) (let r30:List (List UInt8):=bU.set (0+gU.toNat) (([40]++v29)++[41])
 let v31:Int:=IntKind.wrap .i64 (gU+1)
 g0 (l_4,Fh,Je,v31,r30,())))))))) (br (v9.1==8) (ob (strconv_Itoa n v9.2.2.2.2.2.2.1) fun y32 =>chk (decide ([92].length+y32.length<=aG)) (chk ((inB gU (bU.length)&&decide (0+(bU.length)<=bU.length))) (chk (decide (0+gU.toNat<bU.length)) (let r33:List (List UInt8):=bU.set (0+gU.toNat) ([92]++y32)
 let v34:Int:=IntKind.wrap .i64 (gU+1)
 g0 (l_4,Fh,Je,v34,r33,()))))) (let v35:Int:=IntKind.wrap .i64 (gU+1)
 g0 (l_4,Fh,Je,v35,bU,()))))))))))) (let v36:Int:=IntKind.wrap .i64 ((l_4.length:Int) - 1)
 chk ((inB v36 (bU.length)&&decide (0+(bU.length)<=bU.length))) (chk (decide (0+v36.toNat<bU.length)) (let v37:List UInt8:=bU.getD (0+v36.toNat) (Ty.dflt .str)
 ob (vC n v37) fun y38 =>br (y38.2.2 != 0) (some ([],1)) (ob (Np n y38.1) fun y39 =>ob (Np n l_4) fun y40 =>br (!(y39==y40)) (some ([],1)) (some (v37,0))))))
def vD (n:Nat) (x:List (NdT)):Option (List UInt8×Int) :=let l_0:=x
 ob (Er n l_0) fun y1 =>br (!y1) (some ([],1)) (chk ((decide (0<=(l_0.length:Int))&&(decide ((l_0.length:Int) = (l_0.length:Int))&&Nat.ble ((l_0.length:Int).toNat * 16) room))) (let r2:List (List UInt8):=List.replicate (l_0.length:Int).toNat []
 fix (eH n) n (l_0,l_0,(l_0.length:Int),0,r2,())))
def wU (n:Nat) (x:Unit):Option (Bool) :=ob (vC n [94,40,97,124,98,43,41,123,50,44,51,125,36,124,99,63]) fun y1 =>ob (vD n y1.1) fun y2 =>ob (vC n [97,40,98]) fun y3 =>br (y1.2.2==0) (br (y2.2==0) (br (y1.2.1==0) (br (y2.1==[94,40,97,124,98,43,41,123,50,44,51,125,36,124,99,63]) (ob (zAp n y1.1) fun y4 =>br (y4==1) (br (y3.2.1==1) (some (y3.2.2==41)) (some false)) (some false)) (some false)) (some false)) (some false)) (some false)
def bJ (n:Nat) (x:(Er1)×Int×Int):Option (Er1) :=let t_0:=x.1
 let Wo:=x.2.1
 let e_2:=x.2.2
 some (t_0.1,(t_0.2.1,(Wo,(e_2,()))))
def kQ (n:Nat) (x:List UInt8×Int):Option (Bool) :=let s_0:=x.1
 let i_1:=x.2
 br (i_1==(s_0.length:Int)) (some true) (chk (inB i_1 s_0.length) (let v1:Int:=((aR 0 s_0 i_1).toNat:Int)
 br (v1==124) (some true) (chk (inB i_1 s_0.length) (let v2:Int:=((aR 0 s_0 i_1).toNat:Int)
 some (v2==41)))))
def zOt (n:Nat) (g0:List UInt8×Int×Int×Unit->Option (Bool)) (x1:List UInt8×Int×Int×Unit):Option (Bool) :=let s_2:=x1.1
 let b_3:=x1.2.1
 let i_4:=x1.2.2.1
 br (decide (i_4<(s_2.length:Int))) (chk (inB i_4 s_2.length) (let v5:Int:=((aR 0 s_2 i_4).toNat:Int)
 br (v5==b_3) (some true) (let v6:Int:=IntKind.wrap .i64 (i_4+1)
 g0 (s_2,b_3,v6,())))) (some false)
def Ct (n:Nat) (x:List UInt8×Int):Option (Bool) :=let s_0:=x.1
 let b_1:=x.2
 fix (zOt n) n (s_0,b_1,0,())
def gD (n:Nat) (x:List UInt8×Int):Option (Bool) :=let s_0:=x.1
 let i_1:=x.2
 br (decide (i_1<(s_0.length:Int))) (chk (inB i_1 s_0.length) (let v1:Int:=((aR 0 s_0 i_1).toNat:Int)
 ob (Ct n ([42,43,63,123],v1)) fun y2 =>some y2)) (some false)
def fG (n:Nat) (x:(Er1)×Er5):Option (Er1) :=let t_0:=x.1
 let n_1:=x.2
 chk (Nat.ble ((([]:List (NdT)).length+t_0.1.length) * 80) room) (chk (Nat.ble ((([]++t_0.1:List (NdT)).length+([n_1]:List (NdT)).length) * 80) room) (some (([]++t_0.1)++[n_1],t_0.2)))
def nQ (n:Nat) (x:(Er1)×List (Bool)):Option (Er1) :=let t_0:=x.1
 let a_1:=x.2
 ob (Av n a_1) fun y1 =>ob (fG n (t_0,(1,(y1,(0,(0,(0,(0,(0,()))))))))) fun y2 =>some y2
def kR (n:Nat) (x:List UInt8×Int):Option (Int×Int×Int) :=let s_0:=x.1
 let i_1:=x.2
 br (i_1==(s_0.length:Int)) (some (0,0,i_1)) (chk (inB i_1 s_0.length) (let v1:Int:=((aR 0 s_0 i_1).toNat:Int)
 br (v1==42) (let v2:Int:=IntKind.wrap .i64 (i_1+1)
 some (0,(-1),v2)) (br (v1==43) (let v3:Int:=IntKind.wrap .i64 (i_1+1)
 some (1,(-1),v3)) (br (v1==63) (let v4:Int:=IntKind.wrap .i64 (i_1+1)
 some (0,1,v4)) (br (v1==123) (let v5:Int:=IntKind.wrap .i64 (i_1+1)
 ob (Aw n (s_0,v5,[125])) fun y6 =>some (y6)) (some (0,0,i_1)))))))
def vV (n:Nat) (bR:(Er4)->Option ((Er1)×Int)) (x:Er4):Option ((Er1)×Int) :=let s_0:=x.1
 let i_1:=x.2.1
 let t_2:=x.2.2.1
 let Kh:=x.2.2.2
 chk (inB i_1 s_0.length) (let v1:Int:=((aR 0 s_0 i_1).toNat:Int)
 br (v1==94) (br (v1==36) (let v2:Int:=IntKind.wrap .i64 (i_1+1)
 ob (gD n (s_0,v2)) fun y3 =>br y3 (let v4:Int:=IntKind.wrap .i64 (i_1+1)
 ob (bJ n (t_2,v4,43)) fun y5 =>some (y5,i_1)) (ob (fG n (t_2,(3,([0,0,0,0],(0,(0,(0,(0,(0,()))))))))) fun y6 =>let v7:Int:=IntKind.wrap .i64 (i_1+1)
 some (y6,v7))) (let v8:Int:=IntKind.wrap .i64 (i_1+1)
 ob (gD n (s_0,v8)) fun y9 =>br y9 (let v10:Int:=IntKind.wrap .i64 (i_1+1)
 ob (bJ n (t_2,v10,43)) fun y11 =>some (y11,i_1)) (ob (fG n (t_2,(2,([0,0,0,0],(0,(0,(0,(0,(0,()))))))))) fun y12 =>let v13:Int:=IntKind.wrap .i64 (i_1+1)
 some (y12,v13)))) (br (v1==36) (br (v1==36) (let v14:Int:=IntKind.wrap .i64 (i_1+1)
 ob (gD n (s_0,v14)) fun y15 =>br y15 (let v16:Int:=IntKind.wrap .i64 (i_1+1)
 ob (bJ n (t_2,v16,43)) fun y17 =>some (y17,i_1)) (ob (fG n (t_2,(3,([0,0,0,0],(0,(0,(0,(0,(0,()))))))))) fun y18 =>let v19:Int:=IntKind.wrap .i64 (i_1+1)
 some (y18,v19))) (let v20:Int:=IntKind.wrap .i64 (i_1+1)
 ob (gD n (s_0,v20)) fun y21 =>br y21 (let v22:Int:=IntKind.wrap .i64 (i_1+1)
 ob (bJ n (t_2,v22,43)) fun y23 =>some (y23,i_1)) (ob (fG n (t_2,(2,([0,0,0,0],(0,(0,(0,(0,(0,()))))))))) fun y24 =>let v25:Int:=IntKind.wrap .i64 (i_1+1)
 some (y24,v25)))) (ob (gD n (s_0,i_1)) fun y26 =>br y26 (ob (bJ n (t_2,i_1,43)) fun y27 =>some (y27,i_1)) (br (v1==46) (ob (dR n (0,255)) fun y28 =>ob (nQ n (t_2,y28)) fun y29 =>let v30:Int:=IntKind.wrap .i64 (i_1+1)
 ob (kR n (s_0,v30)) fun y31 =>br (decide (y31.2.2 < 0)) (ob (bJ n (y29,v30,43)) fun y32 =>some (y32,v30)) (br (y31.2.2==v30) (some (y29,v30)) (let v33:Int:=IntKind.wrap .i64 ((y29.1.length:Int) - 1)
 ob (fG n (y29,(6,([0,0,0,0],(v33,(0,(y31.1,(y31.2.1,(0,()))))))))) fun y34 =>ob (gD n (s_0,y31.2.2)) fun y35 =>br y35 (ob (bJ n (y34,y31.2.2,43)) fun y36 =>some (y36,y31.2.2)) (some (y34,y31.2.2))))) (br (v1==91) (chk ((decide (0<=i_1)&&decide (i_1<=(s_0.length:Int)))) (ob (wJ n (s_0.drop i_1.toNat)) fun y37 =>br (y37.2.2 != 0) (ob (bJ n (t_2,i_1,y37.2.2)) fun y38 =>some (y38,i_1)) (ob (nQ n (t_2,y37.1)) fun y39 =>let v40:Int:=IntKind.wrap .i64 (i_1+y37.2.1)
 ob (kR n (s_0,v40)) fun y41 =>br (decide (y41.2.2 < 0)) (ob (bJ n (y39,v40,43)) fun y42 =>some (y42,v40)) (br (y41.2.2==v40) (some (y39,v40)) (let v43:Int:=IntKind.wrap .i64 ((y39.1.length:Int) - 1)
 ob (fG n (y39,(6,([0,0,0,0],(v43,(0,(y41.1,(y41.2.1,(0,()))))))))) fun y44 =>ob (gD n (s_0,y41.2.2)) fun y45 =>br y45 (ob (bJ n (y44,y41.2.2,43)) fun y46 =>some (y46,y41.2.2)) (some (y44,y41.2.2))))))) (br (v1==40) (br (t_2.2.1==9) (ob (bJ n (t_2,i_1,41)) fun y47 =>some (y47,i_1)) (let v48:Int:=IntKind.wrap .i64 (t_2.2.1+1)
 let v49:Int:=IntKind.wrap .i64 (i_1+1)
 let v50:Int:=IntKind.wrap .i64 (Kh+1)
 ob (bR (s_0,v49,(t_2.1,(v48,t_2.2.2)),v50)) fun y51 =>br (y51.1.2.2.2.1 != 0) (some (y51.1,y51.2)) (br (y51.2==(s_0.length:Int)) (ob (bJ n ((t_2.1,(v48,t_2.2.2)),i_1,41)) fun y52 =>some (y52,i_1)) (let v53:Int:=IntKind.wrap .i64 ((y51.1.1.length:Int) - 1)
 ob (fG n (y51.1,(7,([0,0,0,0],(v53,(0,(0,(0,(v48,()))))))))) fun y54 =>let v55:Int:=IntKind.wrap .i64 (y51.2+1)
 ob (kR n (s_0,v55)) fun y56 =>br (decide (y56.2.2 < 0)) (ob (bJ n (y54,v55,43)) fun y57 =>some (y57,v55)) (br (y56.2.2==v55) (some (y54,v55)) (let v58:Int:=IntKind.wrap .i64 ((y54.1.length:Int) - 1)
 ob (fG n (y54,(6,([0,0,0,0],(v58,(0,(y56.1,(y56.2.1,(0,()))))))))) fun y59 =>ob (gD n (s_0,y56.2.2)) fun y60 =>br y60 (ob (bJ n (y59,y56.2.2,43)) fun y61 =>some (y61,y56.2.2)) (some (y59,y56.2.2)))))))) (br (v1==92) (let v62:Int:=IntKind.wrap .i64 (i_1+1)
 br (v62==(s_0.length:Int)) (ob (bJ n (t_2,i_1,40)) fun y63 =>some (y63,i_1)) (let v64:Int:=IntKind.wrap .i64 (i_1+1)
 chk (inB v64 s_0.length) (let v65:Int:=((aR 0 s_0 v64).toNat:Int)
 br (v65==110) (ob (qO n [10]) fun y66 =>ob (nQ n (t_2,y66)) fun y67 =>let v68:Int:=IntKind.wrap .i64 (i_1+2)
 ob (kR n (s_0,v68)) fun y69 =>br (decide (y69.2.2 < 0)) (ob (bJ n (y67,v68,43)) fun y70 =>some (y70,v68)) (br (y69.2.2==v68) (some (y67,v68)) (let v71:Int:=IntKind.wrap .i64 ((y67.1.length:Int) - 1)
 ob (fG n (y67,(6,([0,0,0,0],(v71,(0,(y69.1,(y69.2.1,(0,()))))))))) fun y72 =>ob (gD n (s_0,y69.2.2)) fun y73 =>br y73 (ob (bJ n (y72,y69.2.2,43)) fun y74 =>some (y74,y69.2.2)) (some (y72,y69.2.2))))) (ob (Ct n ([46,91,92,40,41,42,43,63,123,125,124,94,36,47],v65)) fun y75 =>br y75 (let v76:Int:=IntKind.wrap .i64 (i_1+1)
 let v77:Int:=IntKind.wrap .i64 (i_1+2)
 chk ((decide (0<=v77)&&decide (v77<=(s_0.length:Int))&&(decide (0<=v76)&&decide (v76<=v77)))) (let v78:List UInt8:=(s_0.take v77.toNat).drop v76.toNat
 ob (qO n v78) fun y79 =>ob (nQ n (t_2,y79)) fun y80 =>let v81:Int:=IntKind.wrap .i64 (i_1+2)
 ob (kR n (s_0,v81)) fun y82 =>br (decide (y82.2.2 < 0)) (ob (bJ n (y80,v81,43)) fun y83 =>some (y83,v81)) (br (y82.2.2==v81) (some (y80,v81)) (let v84:Int:=IntKind.wrap .i64 ((y80.1.length:Int) - 1)
 ob (fG n (y80,(6,([0,0,0,0],(v84,(0,(y82.1,(y82.2.1,(0,()))))))))) fun y85 =>ob (gD n (s_0,y82.2.2)) fun y86 =>br y86 (ob (bJ n (y85,y82.2.2,43)) fun y87 =>some (y87,y82.2.2)) (some (y85,y82.2.2)))))) (br (decide (v65≥49)) (br (decide (v65<=57)) (ob (bJ n (t_2,i_1,44)) fun y88 =>some (y88,i_1)) (ob (bJ n (t_2,i_1,40)) fun y89 =>some (y89,i_1))) (ob (bJ n (t_2,i_1,40)) fun y90 =>some (y90,i_1))))))) (let v91:Int:=IntKind.wrap .i64 (i_1+1)
 chk ((decide (0<=v91)&&decide (v91<=(s_0.length:Int))&&(decide (0<=i_1)&&decide (i_1<=v91)))) (let v92:List UInt8:=(s_0.take v91.toNat).drop i_1.toNat
 ob (qO n v92) fun y93 =>ob (nQ n (t_2,y93)) fun y94 =>let v95:Int:=IntKind.wrap .i64 (i_1+1)
 ob (kR n (s_0,v95)) fun y96 =>br (decide (y96.2.2 < 0)) (ob (bJ n (y94,v95,43)) fun y97 =>some (y97,v95)) (br (y96.2.2==v95) (some (y94,v95)) (let v98:Int:=IntKind.wrap .i64 ((y94.1.length:Int) - 1)
 ob (fG n (y94,(6,([0,0,0,0],(v98,(0,(y96.1,(y96.2.1,(0,()))))))))) fun y99 =>ob (gD n (s_0,y96.2.2)) fun yZv =>br yZv (ob (bJ n (y99,y96.2.2,43)) fun y101 =>some (y101,y96.2.2)) (some (y99,y96.2.2)))))))))))))
def vX (n:Nat) (g0:List (Int)×Int×Int×List (NdT)×Int×Int×Int×Int×Int×Int×List (NdT)×Unit->Option (Er1)) (x2:List (Int)×Int×Int×List (NdT)×Int×Int×Int×Int×Er3):Option (Er1) :=let zXg:=x2.1
 let yIw:=x2.2.1
 let k_5:=x2.2.2.1
 let l6:=x2.2.2.2.1
 let yIx:=x2.2.2.2.2.1
 let at8:=x2.2.2.2.2.2.1
 let e9:=x2.2.2.2.2.2.2.1
 br (decide (k_5≥0)) (chk (inB k_5 zXg.length) (let v14:Int:=aR (Ty.dflt (.int .i64)) zXg k_5
 let v15:Int:=IntKind.wrap .i64 ((l6.length:Int) - 1)
 ob (fG n ((l6,(yIx,(at8,(e9,())))),(yIw,([0,0,0,0],(v14,(v15,(0,(0,(0,()))))))))) fun y16 =>let v17:Int:=IntKind.wrap .i64 (k_5 - 1)
 g0 (zXg,yIw,v17,y16.1,y16.2.1,y16.2.2.1,y16.2.2.2.1,x2.2.2.2.2.2.2.2))) (some (l6,(yIx,(at8,(e9,())))))
def kW (n:Nat) (x:(Er1)×List (Int)×Int):Option (Er1) :=let t_0:=x.1
 let yIy:=x.2.1
 let yUm:=x.2.2
 let v1:Int:=IntKind.wrap .i64 ((yIy.length:Int) - 2)
 fix (vX n) n (yIy,yUm,v1,t_0.1,t_0.2.1,t_0.2.2.1,t_0.2.2.2.1,0,0,0,[],())
def kJ (n:Nat) (bR:(Er4)->Option ((Er1)×Int)) (g0:List UInt8×Int×Int×List (NdT)×Int×Int×Int×Int×Int×Int×List (Int)×List (NdT)×Unit->Option ((Er1)×Int)) (x5:Er6):Option ((Er1)×Int) :=let s_6:=x5.1
 let i_7:=x5.2.1
 let yIz:=x5.2.2.1
 let l9:=x5.2.2.2.1
 let zEf:=x5.2.2.2.2.1
 let yUn:=x5.2.2.2.2.2.1
 let e12:=x5.2.2.2.2.2.2.1
 let yQu:=x5.2.2.2.2.2.2.2.1
 let yZw:=x5.2.2.2.2.2.2.2.2.1
 let e15:=x5.2.2.2.2.2.2.2.2.2.1
 let Rc:=x5.2.2.2.2.2.2.2.2.2.2.1
 let yXf:=x5.2.2.2.2.2.2.2.2.2.2.2.1
 ob (kQ n (s_6,i_7)) fun y18 =>br (!y18) (ob (vV n bR (s_6,i_7,(l9,(zEf,(yUn,(e12,())))),yIz)) fun y19 =>br (y19.1.2.2.2.1 != 0) (some (y19.1,y19.2)) (let v20:Int:=IntKind.wrap .i64 ((y19.1.1.length:Int) - 1)
 chk (Nat.ble ((Rc.length+([v20]:List (Int)).length) * 8) room) (g0 (s_6,y19.2,yIz,y19.1.1,y19.1.2.1,y19.1.2.2.1,y19.1.2.2.2.1,yQu,yZw,e15,Rc++[v20],yXf,())))) (ob (kW n ((l9,(zEf,(yUn,(e12,())))),Rc,4)) fun y21 =>some (y21,i_7))
def Pm (n:Nat) (bR:(Er4)->Option ((Er1)×Int)) (g0:List UInt8×Int×Int×List (NdT)×Int×Int×Int×Int×Int×Int×List (Int)×List (NdT)×Unit->Option ((Er1)×Int)) (x24:Er6):Option ((Er1)×Int) :=let yNf:=x24.1
 let yNg:=x24.2.1
 let yBt:=x24.2.2.1
 let l28:=x24.2.2.2.1
 let yBu:=x24.2.2.2.2.1
 let yUo:=x24.2.2.2.2.2.1
 let e31:=x24.2.2.2.2.2.2.1
 let yQv:=x24.2.2.2.2.2.2.2.1
 let yZx:=x24.2.2.2.2.2.2.2.2.1
 let e34:=x24.2.2.2.2.2.2.2.2.2.1
 let yFr:=x24.2.2.2.2.2.2.2.2.2.2.1
 let yXg:=x24.2.2.2.2.2.2.2.2.2.2.2.1
 ob (kQ n (yNf,yNg)) fun y37 =>br (!y37) (ob (vV n bR (yNf,yNg,(l28,(yBu,(yUo,(e31,())))),yBt)) fun y38 =>br (y38.1.2.2.2.1 != 0) (some (y38.1,y38.2)) (let v39:Int:=IntKind.wrap .i64 ((y38.1.1.length:Int) - 1)
 chk (Nat.ble ((yFr.length+([v39]:List (Int)).length) * 8) room) (g0 (yNf,y38.2,yBt,y38.1.1,y38.1.2.1,y38.1.2.2.1,y38.1.2.2.2.1,yQv,yZx,e34,yFr++[v39],yXg,())))) (ob (kW n ((l28,(yBu,(yUo,(e31,())))),yFr,4)) fun y40 =>some (y40,yNg))
def Lm (n:Nat) (bR:(Er4)->Option ((Er1)×Int)) (g0:List UInt8×Int×Int×List (NdT)×Int×Int×Int×Int×Int×Int×List (Int)×List (NdT)×Unit->Option ((Er1)×Int)) (x43:Er6):Option ((Er1)×Int) :=let yNh:=x43.1
 let yNi:=x43.2.1
 let yBv:=x43.2.2.1
 let l47:=x43.2.2.2.1
 let yBw:=x43.2.2.2.2.1
 let yUp:=x43.2.2.2.2.2.1
 let e50:=x43.2.2.2.2.2.2.1
 let yQw:=x43.2.2.2.2.2.2.2.1
 let yZy:=x43.2.2.2.2.2.2.2.2.1
 let e53:=x43.2.2.2.2.2.2.2.2.2.1
 let yFs:=x43.2.2.2.2.2.2.2.2.2.2.1
 let yXh:=x43.2.2.2.2.2.2.2.2.2.2.2.1
 ob (kQ n (yNh,yNi)) fun y56 =>br (!y56) (ob (vV n bR (yNh,yNi,(l47,(yBw,(yUp,(e50,())))),yBv)) fun y57 =>br (y57.1.2.2.2.1 != 0) (some (y57.1,y57.2)) (let v58:Int:=IntKind.wrap .i64 ((y57.1.1.length:Int) - 1)
 chk (Nat.ble ((yFs.length+([v58]:List (Int)).length) * 8) room) (g0 (yNh,y57.2,yBv,y57.1.1,y57.1.2.1,y57.1.2.2.1,y57.1.2.2.2.1,yQw,yZy,e53,yFs++[v58],yXh,())))) (ob (kW n ((l47,(yBw,(yUp,(e50,())))),yFs,4)) fun y59 =>some (y59,yNi))
def yI (n:Nat) (bR:(Er4)->Option ((Er1)×Int)) (x:Er4):Option ((Er1)×Int) :=let s_0:=x.1
 let i_1:=x.2.1
 let t_2:=x.2.2.1
 let Kh:=x.2.2.2
 br (decide (i_1<(s_0.length:Int))) (chk (inB i_1 s_0.length) (let v1:Int:=((aR 0 s_0 i_1).toNat:Int)
 br (v1==41) (br (Kh==0) (ob (bJ n (t_2,i_1,41)) fun y2 =>some (y2,i_1)) (ob (kQ n (s_0,i_1)) fun y3 =>br y3 (ob (bJ n (t_2,i_1,40)) fun y4 =>some (y4,i_1)) (fix (kJ n bR) n (s_0,i_1,Kh,t_2.1,t_2.2.1,t_2.2.2.1,t_2.2.2.2.1,0,0,0,[],[],())))) (ob (kQ n (s_0,i_1)) fun y22 =>br y22 (ob (bJ n (t_2,i_1,40)) fun y23 =>some (y23,i_1)) (fix (Pm n bR) n (s_0,i_1,Kh,t_2.1,t_2.2.1,t_2.2.2.1,t_2.2.2.2.1,0,0,0,[],[],()))))) (ob (kQ n (s_0,i_1)) fun y41 =>br y41 (ob (bJ n (t_2,i_1,40)) fun y42 =>some (y42,i_1)) (fix (Lm n bR) n (s_0,i_1,Kh,t_2.1,t_2.2.1,t_2.2.2.1,t_2.2.2.2.1,0,0,0,[],[],())))
def Cu (n:Nat) (bR:(Er4)->Option ((Er1)×Int)) (g0:List UInt8×Int×Int×List (NdT)×Int×Int×Int×Int×Int×Int×List (Int)×List (NdT)×Unit->Option ((Er1)×Int)) (x1:Er6):Option ((Er1)×Int) :=let s_2:=x1.1
 let i_3:=x1.2.1
 let yJa:=x1.2.2.1
 let l5:=x1.2.2.2.1
 let yUq:=x1.2.2.2.2.1
 let at7:=x1.2.2.2.2.2.1
 let e8:=x1.2.2.2.2.2.2.1
 let yUr:=x1.2.2.2.2.2.2.2.1
 let zOs:=x1.2.2.2.2.2.2.2.2.1
 let e11:=x1.2.2.2.2.2.2.2.2.2.1
 let zTn:=x1.2.2.2.2.2.2.2.2.2.2.1
 let Rb:=x1.2.2.2.2.2.2.2.2.2.2.2.1
 ob (yI n bR (s_2,i_3,(l5,(yUq,(at7,(e8,())))),yJa)) fun y14 =>br (y14.1.2.2.2.1 != 0) (some (y14.1,y14.2)) (let v15:Int:=IntKind.wrap .i64 ((y14.1.1.length:Int) - 1)
 chk (Nat.ble ((zTn.length+([v15]:List (Int)).length) * 8) room) (br (y14.2==(s_2.length:Int)) (ob (kW n (y14.1,zTn++[v15],5)) fun y16 =>some (y16,y14.2)) (chk (inB y14.2 s_2.length) (let v17:Int:=((aR 0 s_2 y14.2).toNat:Int)
 br (v17 != 124) (ob (kW n (y14.1,zTn++[v15],5)) fun y18 =>some (y18,y14.2)) (let v19:Int:=IntKind.wrap .i64 (y14.2+1)
 g0 (s_2,v19,yJa,y14.1.1,y14.1.2.1,y14.1.2.2.1,y14.1.2.2.2.1,yUr,zOs,e11,zTn++[v15],Rb,()))))))
def xP (n:Nat) (bR:(Er4)->Option ((Er1)×Int)) (x:Er4):Option ((Er1)×Int) :=let s_0:=x.1
 let i_1:=x.2.1
 let t_2:=x.2.2.1
 let Kh:=x.2.2.2
 fix (Cu n bR) n (s_0,i_1,Kh,t_2.1,t_2.2.1,t_2.2.2.1,t_2.2.2.2.1,0,0,0,[],[],())
def sS (n:Nat):(Er4)->Option ((Er1)×Int) :=Wi (fun n r x=>xP n r x) n
def Az (n:Nat) (x:List UInt8):Option (List (NdT)×Int×Int) :=let s_0:=x
 br (s_0==[]) (some ([(0,([0,0,0,0],(0,(0,(0,(0,(0,())))))))],0,0)) (ob (sS n (s_0,0,([],(0,(0,(0,())))),0)) fun y1 =>br (y1.1.2.2.2.1 != 0) (some ([],y1.1.2.2.1,y1.1.2.2.2.1)) (br (decide (y1.2<(s_0.length:Int))) (some ([],y1.2,41)) (br (decide ((y1.1.1.length:Int) > 120)) (some ([],0,2)) (some (y1.1.1,0,0)))))
def zLu (n:Nat) (g0:List (NdT)×Int×List (NdT)×Unit->Option (List (NdT))) (x1:List (NdT)×Int×List (NdT)×Unit):Option (List (NdT)) :=let l_2:=x1.1
 let i_3:=x1.2.1
 let Ky:=x1.2.2.1
 br (decide (i_3<(l_2.length:Int))) (chk (inB i_3 l_2.length) (let v5:Int×List (Int)×Int×Int×Int×Int×Int×Unit:=aR (Ty.dflt aD) l_2 i_3
 chk (Nat.ble ((Ky.length+([v5]:List (NdT)).length) * 80) room) (let v6:Int:=IntKind.wrap .i64 (i_3+1)
 g0 (l_2,v6,Ky++[v5],())))) (some Ky)
def Ki (n:Nat) (x:List (NdT)):Option (List (NdT)) :=let l_0:=x
 fix (zLu n) n (l_0,0,[],())
def Fj (n:Nat) (x:List (Bool)):Option (List UInt8) :=let a_0:=x
 ob (Jc n (a_0,[46,91,92,40,41,42,43,63,123,125,124,94,36])) fun y1 =>some y1
def uE (n:Nat) (x32:List UInt8×List UInt8×Bool×Er5):Option (List UInt8) :=let Pn:=x32.1
 let Ur:=x32.2.1
 let yUs:=x32.2.2.1
 let yXi:=x32.2.2.2.2.2.2.2.1
 let yFt:=x32.2.2.2.2.2.2.2.2.1
 br yUs (chk (decide (Pn.length+([63]:List UInt8).length<=aG)) (some (Pn++[63]))) (br (yXi==yFt) (chk (decide (Pn.length+([123]:List UInt8).length<=aG)) (chk (decide ((Pn++[123]).length+Ur.length<=aG)) (let v43:List UInt8:=(Pn++[123])++Ur
 chk (decide (v43.length+([125]:List UInt8).length<=aG)) (some (v43++[125]))))) (br (yFt==(-1)) (chk (decide (Pn.length+([123]:List UInt8).length<=aG)) (chk (decide ((Pn++[123]).length+Ur.length<=aG)) (let v44:List UInt8:=(Pn++[123])++Ur
 chk (decide (v44.length+([44,125]:List UInt8).length<=aG)) (some (v44++[44,125]))))) (chk (decide (Pn.length+([123]:List UInt8).length<=aG)) (chk (decide ((Pn++[123]).length+Ur.length<=aG)) (let v45:List UInt8:=(Pn++[123])++Ur
 chk (decide (v45.length+([44]:List UInt8).length<=aG)) (ob (oF n yFt) fun y46 =>chk (decide ((v45++[44]).length+y46.length<=aG)) (chk (decide (((v45++[44])++y46).length+([125]:List UInt8).length<=aG)) (let v47:List UInt8:=((v45++[44])++y46)++[125]
 some v47))))))))
def uF (n:Nat) (x21:List UInt8×List UInt8×Bool×Er5):Option (List UInt8) :=let yFu:=x21.1
 let yJb:=x21.2.1
 let yUt:=x21.2.2.1
 let yXj:=x21.2.2.2.2.2.2.2.1
 let yXk:=x21.2.2.2.2.2.2.2.2.1
 br yUt (chk (decide (yFu.length+([43]:List UInt8).length<=aG)) (some (yFu++[43]))) (br (yXj==0) (jn (uE n) (yFu,yJb,(yXk==1),x21.2.2.2)) (jn (uE n) (yFu,yJb,false,x21.2.2.2)))
def uG (n:Nat) (x10:List UInt8×List UInt8×Bool×Er5):Option (List UInt8) :=let yFv:=x10.1
 let yJc:=x10.2.1
 let yUu:=x10.2.2.1
 let yXl:=x10.2.2.2.2.2.2.2.1
 let yXm:=x10.2.2.2.2.2.2.2.2.1
 br yUu (chk (decide (yFv.length+([42]:List UInt8).length<=aG)) (some (yFv++[42]))) (br (yXl==1) (jn (uF n) (yFv,yJc,(yXm==(-1)),x10.2.2.2)) (jn (uF n) (yFv,yJc,false,x10.2.2.2)))
def fU (n:Nat) (jR:(List (NdT)×Int)->Option (List UInt8)) (x:List (NdT)×Int):Option (List UInt8) :=let l_0:=x.1
 let i_1:=x.2
 chk (inB i_1 l_0.length) (let v1:Int×List (Int)×Int×Int×Int×Int×Int×Unit:=aR (Ty.dflt aD) l_0 i_1
 br (v1.1==1) (ob (Ew n v1.2.1) fun y2 =>ob (Fj n y2) fun y3 =>some y3) (br (v1.1==2) (some [94]) (br (v1.1==3) (some [36]) (br (v1.1==4) (ob (jR (l_0,v1.2.2.1)) fun y4 =>ob (jR (l_0,v1.2.2.2.1)) fun y5 =>chk (decide (y4.length+y5.length<=aG)) (some (y4++y5))) (br (v1.1==5) (ob (jR (l_0,v1.2.2.1)) fun y6 =>chk (decide (y6.length+([124]:List UInt8).length<=aG)) (ob (jR (l_0,v1.2.2.2.1)) fun y7 =>chk (decide ((y6++[124]).length+y7.length<=aG)) (some ((y6++[124])++y7)))) (br (v1.1==6) (ob (jR (l_0,v1.2.2.1)) fun y8 =>ob (oF n v1.2.2.2.2.1) fun y9 =>br (v1.2.2.2.2.1==0) (jn (uG n) (y8,y9,(v1.2.2.2.2.2.1==(-1)),v1.1,v1.2.1,v1.2.2.1,v1.2.2.2.1,v1.2.2.2.2.1,v1.2.2.2.2.2.1,v1.2.2.2.2.2.2.1,())) (jn (uG n) (y8,y9,false,v1.1,v1.2.1,v1.2.2.1,v1.2.2.2.1,v1.2.2.2.2.1,v1.2.2.2.2.2.1,v1.2.2.2.2.2.2.1,()))) (br (v1.1==7) (ob (jR (l_0,v1.2.2.1)) fun y48 =>chk (decide ([40].length+y48.length<=aG)) (chk (decide (([40]++y48).length+([41]:List UInt8).length<=aG)) (some (([40]++y48)++[41])))) (br (v1.1==8) (ob (oF n v1.2.2.2.2.2.2.1) fun y49 =>chk (decide ([92].length+y49.length<=aG)) (some ([92]++y49))) (some [])))))))))
def wV (n:Nat):(List (NdT)×Int)->Option (List UInt8) :=Wi (fun n r x=>fU n r x) n
def wW (n:Nat) (x:List (NdT)):Option (List UInt8×Int) :=let l_0:=x
 ob (vB n l_0) fun y1 =>br (!y1) (some ([],1)) (let v2:Int:=IntKind.wrap .i64 ((l_0.length:Int) - 1)
 ob (wV n (l_0,v2)) fun y3 =>ob (Az n y3) fun y4 =>br (y4.2.2 != 0) (some ([],1)) (ob (sN n (y4.1,l_0)) fun y5 =>br (!y5) (some ([],1)) (some (y3,0))))
def Fp (n:Nat) (x:List (NdT)):Option (Bool) :=let l_0:=x
 br (decide ((l_0.length:Int) > 130)) (ob (wU n ()) fun y1 =>some y1) (ob (wU n ()) fun y2 =>br (!y2) (ob (wU n ()) fun y3 =>some y3) (ob (vD n l_0) fun y4 =>ob (Ki n l_0) fun y5 =>ob (wW n y5) fun y6 =>br (y4.1==y6.1) (some (y4.2==y6.2)) (some false)))
end Go.Dec
