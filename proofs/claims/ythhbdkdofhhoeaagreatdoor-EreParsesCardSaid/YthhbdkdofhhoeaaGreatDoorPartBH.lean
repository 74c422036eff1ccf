/- Part of a proof over this seat: a library of my own, and what it says of this seat. No statement is proved here. -/
import Derived.Test.YthhbdkdofhhoeaaGreatDoorPartAL
import Derived.Test.YthhbdkdofhhoeaaGreatDoorPartAW
import Derived.Test.YthhbdkdofhhoeaaGreatDoorPartAQ
namespace Go.Dec
set_option linter.unusedVariables false
abbrev Er0:Type:=List UInt8 × Int × Int × Int × Int × List (NdT) × List (Int × Int × List (Int) × List (Int) × Unit) × Unit
abbrev Er1:Type:=List (NdT) × Int × Int × Int × Unit
abbrev Er2:Type:=Int × Int × List (Int) × List (NdT) × Unit
abbrev Er3:Type:=Int × Int × List (NdT) × Unit
abbrev Er4:Type:=List UInt8 × Int × (Er1) × Int
abbrev Er5:Type:=Int × List (Int) × Int × Int × Int × Int × Int × Unit
abbrev Er6:Type:=List UInt8 × Int × Int × List (NdT) × Int × Int × Int × Int × Er2
abbrev Er7:Type:=List UInt8 × Int × Int × Value × Er3
abbrev Er8:Type:=Int × List UInt8 × Int × Int × Value × Er2
abbrev Er9:Type:=List UInt8 × Int × Int × Er3
def lI (n : Nat) (x : Er7) : Option (Bool × Er7) :=
 let s1 : List UInt8 := x.1
 let at2 : Int := x.2.1
 br (decide (at2 < (s1.length : Int))) (
  chk (inB at2 s1.length) (
   let v8 : Int := ((aU 0 s1 at2).toNat : Int)
   ob (strings_IndexByte n ([42, 43, 63, 123], v8)) fun y9 =>
   some ((decide (y9 ≥ 0)), x))) (
  some (false, x))
def bZ (n:Nat) (x:Er9):Option (Bool × Er9):=match lI n (x.1,x.2.1,x.2.2.1,Value.nilFunc,x.2.2.2) with | some y=>some (y.1,y.2.1,y.2.2.1,y.2.2.2.1,y.2.2.2.2.2) | none=>none
def qI (n : Nat) (x : Int × Int × Er7) : Option (Bool × Er7) :=
 let e_1 : Int := x.1
 let pQ : Int := x.2.1
 let s3 : List UInt8 := x.2.2.1
 let at4 : Int := x.2.2.2.1
 let yJi : Int := x.2.2.2.2.1
 let yJj : Value := x.2.2.2.2.2.1
 let yNt : List (NdT) := x.2.2.2.2.2.2.2.2.1
 some (false, s3, at4, yJi, yJj, e_1, pQ, yNt, ())
def aR (n:Nat) (x:Int × Int × Er9):Option (Bool × Er9):=match qI n (x.1,x.2.1,x.2.2.1,x.2.2.2.1,x.2.2.2.2.1,Value.nilFunc,x.2.2.2.2.2) with | some y=>some (y.1,y.2.1,y.2.2.1,y.2.2.2.1,y.2.2.2.2.2) | none=>none
def gG (n : Nat) (x : Int × List (Int) × Int × Int × Int × Int × Int × Er7) : Option (Int × Er7) :=
 let n_1 : Int := x.1
 let n_2 : List (Int) := x.2.1
 let n_3 : Int := x.2.2.1
 let n_4 : Int := x.2.2.2.1
 let n_5 : Int := x.2.2.2.2.1
 let n_6 : Int := x.2.2.2.2.2.1
 let n_7 : Int := x.2.2.2.2.2.2.1
 let s8 : List UInt8 := x.2.2.2.2.2.2.2.1
 let at9 : Int := x.2.2.2.2.2.2.2.2.1
 let Yb : Int := x.2.2.2.2.2.2.2.2.2.1
 let yGb : Value := x.2.2.2.2.2.2.2.2.2.2.1
 let e12 : Int := x.2.2.2.2.2.2.2.2.2.2.2.1
 let yGc : Int := x.2.2.2.2.2.2.2.2.2.2.2.2.1
 let yEr : List (NdT) := x.2.2.2.2.2.2.2.2.2.2.2.2.2.1
 chk (Nat.ble ((yEr.length + ([(n_1, (n_2, (n_3, (n_4, (n_5, (n_6, (n_7, ())))))))] : List (NdT)).length) * 80) room) (
  let r15 : List (NdT) := yEr ++ [(n_1, (n_2, (n_3, (n_4, (n_5, (n_6, (n_7, ())))))))]
  let v16 : Int := ((r15.length : Nat) : Int)
  let v17 : Int := IntKind.wrap .i64 (v16 - 1)
  some (v17, s8, at9, Yb, yGb, e12, yGc, r15, ()))
def bS (n:Nat) (x:Int × List (Int) × Int × Int × Int × Int × Int × Er9):Option (Int × Er9):=match gG n (x.1,x.2.1,x.2.2.1,x.2.2.2.1,x.2.2.2.2.1,x.2.2.2.2.2.1,x.2.2.2.2.2.2.1,x.2.2.2.2.2.2.2.1,x.2.2.2.2.2.2.2.2.1,x.2.2.2.2.2.2.2.2.2.1,Value.nilFunc,x.2.2.2.2.2.2.2.2.2.2) with | some y=>some (y.1,y.2.1,y.2.2.1,y.2.2.2.1,y.2.2.2.2.2) | none=>none
def wN (n : Nat) (x : List UInt8) : Option (Int) :=
 let s_0 : List UInt8 := x
 ob (yC n s_0) fun y1 =>
 br (!(!y1.2)) (
  some (-1)) (
  br (decide ((s_0.length : Int) > 3)) (
   some (-1)) (
   chk (inB 0 s_0.length) (
    let v2 : Int := ((aU 0 s_0 0).toNat : Int)
    br (decide (v2 < 48)) (
     some (-1)) (
     chk (inB 0 s_0.length) (
      let v3 : Int := ((aU 0 s_0 0).toNat : Int)
      br (decide (v3 > 57)) (
       some (-1)) (
       some y1.1))))))
def Jk (n : Nat) (x : List UInt8) : Option (Int × Int × Bool) :=
 let s_0 : List UInt8 := x
 ob (strings_Cut n (s_0, [44])) fun y1 =>
 ob (wN n y1.1) fun y2 =>
 br y1.2.2 (
  ob (wN n y1.2.1) fun y3 =>
  br (y2 == (-1)) (
   some (0, 0, false)) (
   br y1.2.2 (
    br (y3 == (-1)) (
     br (!(y1.2.1 == [])) (
      some (0, 0, false)) (
      br (decide (y2 > 255)) (
       some (0, 0, false)) (
       br (decide (y3 > 255)) (
        some (0, 0, false)) (
        br (y3 != (-1)) (
         br (decide (y3 < (if 1 > y2 then 1 else y2))) (
          some (0, 0, false)) (
          some (y2, y3, true))) (
         some (y2, y3, true)))))) (
     br (decide (y2 > 255)) (
      some (0, 0, false)) (
      br (decide (y3 > 255)) (
       some (0, 0, false)) (
       br (y3 != (-1)) (
        br (decide (y3 < (if 1 > y2 then 1 else y2))) (
         some (0, 0, false)) (
         some (y2, y3, true))) (
        some (y2, y3, true)))))) (
    br (decide (y2 > 255)) (
     some (0, 0, false)) (
     br (decide (y3 > 255)) (
      some (0, 0, false)) (
      br (y3 != (-1)) (
       br (decide (y3 < (if 1 > y2 then 1 else y2))) (
        some (0, 0, false)) (
        some (y2, y3, true))) (
       some (y2, y3, true))))))) (
  br (y2 == (-1)) (
   some (0, 0, false)) (
   br y1.2.2 (
    br (y2 == (-1)) (
     br (!(y1.2.1 == [])) (
      some (0, 0, false)) (
      br (decide (y2 > 255)) (
       some (0, 0, false)) (
       br (decide (y2 > 255)) (
        some (0, 0, false)) (
        br (y2 != (-1)) (
         br (decide (y2 < (if 1 > y2 then 1 else y2))) (
          some (0, 0, false)) (
          some (y2, y2, true))) (
         some (y2, y2, true)))))) (
     br (decide (y2 > 255)) (
      some (0, 0, false)) (
      br (decide (y2 > 255)) (
       some (0, 0, false)) (
       br (y2 != (-1)) (
        br (decide (y2 < (if 1 > y2 then 1 else y2))) (
         some (0, 0, false)) (
         some (y2, y2, true))) (
        some (y2, y2, true)))))) (
    br (decide (y2 > 255)) (
     some (0, 0, false)) (
     br (decide (y2 > 255)) (
      some (0, 0, false)) (
      br (y2 != (-1)) (
       br (decide (y2 < (if 1 > y2 then 1 else y2))) (
        some (0, 0, false)) (
        some (y2, y2, true))) (
       some (y2, y2, true)))))))
def fQ (n : Nat) (x : Int × Er0) : Option (Bool × Er0) :=
 let Yc : Int := x.1
 let s2 : List UInt8 := x.2.1
 let at3 : Int := x.2.2.1
 let zPh : Int := x.2.2.2.1
 let e5 : Int := x.2.2.2.2.1
 let zPi : Int := x.2.2.2.2.2.1
 let yDb : List (NdT) := x.2.2.2.2.2.2.1
 let aJ : List (Int × Int × List (Int) × List (Int) × Unit) := x.2.2.2.2.2.2.2.1
 ob (bZ n (s2, at3, zPh, e5, zPi, yDb, ())) fun y9 =>
 br (!y9.1) (
  chk (Nat.ble 1 aJ.length) (
   chk (Nat.ble 1 ((aJ.take (aJ.length - 1)).length + 1)) (
    chk (Nat.ble 1 ((aJ.take (aJ.length - 1)).length + 1)) (
     chk (decide (((aJ.take (aJ.length - 1)).length + 1) - 1 = (aJ.take (aJ.length - 1)).length)) (
      chk (Nat.ble (((aJ.getD (aJ.length - 1) (0, 0, [], [], ())).2.2.2.1.length + ([Yc] : List (Int)).length) * 8) room) (
       let r10 : List (Int) := (aJ.getD (aJ.length - 1) (0, 0, [], [], ())).2.2.2.1 ++ [Yc]
       chk (decide (((aJ.take (aJ.length - 1)).length + 1) - 1 = (aJ.take (aJ.length - 1)).length)) (
        some (true, y9.2.1, y9.2.2.1, y9.2.2.2.1, y9.2.2.2.2.1, y9.2.2.2.2.2.1, y9.2.2.2.2.2.2.1, (aJ.take (aJ.length - 1)) ++ [((aJ.getD (aJ.length - 1) (0, 0, [], [], ())).1, (aJ.getD (aJ.length - 1) (0, 0, [], [], ())).2.1, (aJ.getD (aJ.length - 1) (0, 0, [], [], ())).2.2.1, r10, ())], ())))))))) (
  let v11 : Int := IntKind.wrap .i64 (y9.2.2.1 + 1)
  chk (inB at3 y9.2.1.length) (
   let v12 : Int := ((aU 0 y9.2.1 at3).toNat : Int)
   br (v12 == 43) (
    ob (bS n (6, [0, 0, 0, 0], Yc, 0, 1, (-1), 0, y9.2.1, v11, y9.2.2.2)) fun y13 =>
    ob (bZ n (y13.2)) fun y14 =>
    br y14.1 (
     ob (aR n (43, y14.2.2.1, y14.2)) fun y15 =>
     some (y15.1, y15.2.1, y15.2.2.1, y15.2.2.2.1, y15.2.2.2.2.1, y15.2.2.2.2.2.1, y15.2.2.2.2.2.2.1, aJ, ())) (
     chk (Nat.ble 1 aJ.length) (
      chk (Nat.ble 1 ((aJ.take (aJ.length - 1)).length + 1)) (
       chk (Nat.ble 1 ((aJ.take (aJ.length - 1)).length + 1)) (
        chk (decide (((aJ.take (aJ.length - 1)).length + 1) - 1 = (aJ.take (aJ.length - 1)).length)) (
         chk (Nat.ble (((aJ.getD (aJ.length - 1) (0, 0, [], [], ())).2.2.2.1.length + ([y13.1] : List (Int)).length) * 8) room) (
          let r16 : List (Int) := (aJ.getD (aJ.length - 1) (0, 0, [], [], ())).2.2.2.1 ++ [y13.1]
          chk (decide (((aJ.take (aJ.length - 1)).length + 1) - 1 = (aJ.take (aJ.length - 1)).length)) (
           some (true, y14.2.1, y14.2.2.1, y14.2.2.2.1, y14.2.2.2.2.1, y14.2.2.2.2.2.1, y14.2.2.2.2.2.2.1, (aJ.take (aJ.length - 1)) ++ [((aJ.getD (aJ.length - 1) (0, 0, [], [], ())).1, (aJ.getD (aJ.length - 1) (0, 0, [], [], ())).2.1, (aJ.getD (aJ.length - 1) (0, 0, [], [], ())).2.2.1, r16, ())], ()))))))))) (
    br (v12 == 63) (
     ob (bS n (6, [0, 0, 0, 0], Yc, 0, 0, 1, 0, y9.2.1, v11, y9.2.2.2)) fun y17 =>
     ob (bZ n (y17.2)) fun y18 =>
     br y18.1 (
      ob (aR n (43, y18.2.2.1, y18.2)) fun y19 =>
      some (y19.1, y19.2.1, y19.2.2.1, y19.2.2.2.1, y19.2.2.2.2.1, y19.2.2.2.2.2.1, y19.2.2.2.2.2.2.1, aJ, ())) (
      chk (Nat.ble 1 aJ.length) (
       chk (Nat.ble 1 ((aJ.take (aJ.length - 1)).length + 1)) (
        chk (Nat.ble 1 ((aJ.take (aJ.length - 1)).length + 1)) (
         chk (decide (((aJ.take (aJ.length - 1)).length + 1) - 1 = (aJ.take (aJ.length - 1)).length)) (
          chk (Nat.ble (((aJ.getD (aJ.length - 1) (0, 0, [], [], ())).2.2.2.1.length + ([y17.1] : List (Int)).length) * 8) room) (
           let r20 : List (Int) := (aJ.getD (aJ.length - 1) (0, 0, [], [], ())).2.2.2.1 ++ [y17.1]
           chk (decide (((aJ.take (aJ.length - 1)).length + 1) - 1 = (aJ.take (aJ.length - 1)).length)) (
            some (true, y18.2.1, y18.2.2.1, y18.2.2.2.1, y18.2.2.2.2.1, y18.2.2.2.2.2.1, y18.2.2.2.2.2.2.1, (aJ.take (aJ.length - 1)) ++ [((aJ.getD (aJ.length - 1) (0, 0, [], [], ())).1, (aJ.getD (aJ.length - 1) (0, 0, [], [], ())).2.1, (aJ.getD (aJ.length - 1) (0, 0, [], [], ())).2.2.1, r20, ())], ()))))))))) (
     br (v12 == 123) (
      chk ((decide (0 <= v11) && decide (v11 <= (y9.2.1.length : Int)))) (
       ob (strings_Cut n (y9.2.1.drop v11.toNat, [125])) fun y21 =>
       ob (Jk n y21.1) fun y22 =>
       br (!y21.2.2) (
        ob (aR n (43, at3, y9.2.1, v11, y9.2.2.2)) fun y23 =>
        some (y23.1, y23.2.1, y23.2.2.1, y23.2.2.2.1, y23.2.2.2.2.1, y23.2.2.2.2.2.1, y23.2.2.2.2.2.2.1, aJ, ())) (
        br (!y22.2.2) (
         ob (aR n (43, at3, y9.2.1, v11, y9.2.2.2)) fun y24 =>
         some (y24.1, y24.2.1, y24.2.2.1, y24.2.2.2.1, y24.2.2.2.2.1, y24.2.2.2.2.2.1, y24.2.2.2.2.2.2.1, aJ, ())) (
         let v25 : Int := IntKind.wrap .i64 ((y21.1.length : Int) + 1)
         let v26 : Int := IntKind.wrap .i64 (v11 + v25)
         ob (bS n (6, [0, 0, 0, 0], Yc, 0, y22.1, y22.2.1, 0, y9.2.1, v26, y9.2.2.2)) fun y27 =>
         ob (bZ n (y27.2)) fun y28 =>
         br y28.1 (
          ob (aR n (43, y28.2.2.1, y28.2)) fun y29 =>
          some (y29.1, y29.2.1, y29.2.2.1, y29.2.2.2.1, y29.2.2.2.2.1, y29.2.2.2.2.2.1, y29.2.2.2.2.2.2.1, aJ, ())) (
          chk (Nat.ble 1 aJ.length) (
           chk (Nat.ble 1 ((aJ.take (aJ.length - 1)).length + 1)) (
            chk (Nat.ble 1 ((aJ.take (aJ.length - 1)).length + 1)) (
             chk (decide (((aJ.take (aJ.length - 1)).length + 1) - 1 = (aJ.take (aJ.length - 1)).length)) (
              chk (Nat.ble (((aJ.getD (aJ.length - 1) (0, 0, [], [], ())).2.2.2.1.length + ([y27.1] : List (Int)).length) * 8) room) (
               let r30 : List (Int) := (aJ.getD (aJ.length - 1) (0, 0, [], [], ())).2.2.2.1 ++ [y27.1]
               chk (decide (((aJ.take (aJ.length - 1)).length + 1) - 1 = (aJ.take (aJ.length - 1)).length)) (
                some (true, y28.2.1, y28.2.2.1, y28.2.2.2.1, y28.2.2.2.2.1, y28.2.2.2.2.2.1, y28.2.2.2.2.2.2.1, (aJ.take (aJ.length - 1)) ++ [((aJ.getD (aJ.length - 1) (0, 0, [], [], ())).1, (aJ.getD (aJ.length - 1) (0, 0, [], [], ())).2.1, (aJ.getD (aJ.length - 1) (0, 0, [], [], ())).2.2.1, r30, ())], ())))))))))))) (
      ob (bS n (6, [0, 0, 0, 0], Yc, 0, 0, (-1), 0, y9.2.1, v11, y9.2.2.2)) fun y31 =>
      ob (bZ n (y31.2)) fun y32 =>
      br y32.1 (
       ob (aR n (43, y32.2.2.1, y32.2)) fun y33 =>
       some (y33.1, y33.2.1, y33.2.2.1, y33.2.2.2.1, y33.2.2.2.2.1, y33.2.2.2.2.2.1, y33.2.2.2.2.2.2.1, aJ, ())) (
       chk (Nat.ble 1 aJ.length) (
        chk (Nat.ble 1 ((aJ.take (aJ.length - 1)).length + 1)) (
         chk (Nat.ble 1 ((aJ.take (aJ.length - 1)).length + 1)) (
          chk (decide (((aJ.take (aJ.length - 1)).length + 1) - 1 = (aJ.take (aJ.length - 1)).length)) (
           chk (Nat.ble (((aJ.getD (aJ.length - 1) (0, 0, [], [], ())).2.2.2.1.length + ([y31.1] : List (Int)).length) * 8) room) (
            let r34 : List (Int) := (aJ.getD (aJ.length - 1) (0, 0, [], [], ())).2.2.2.1 ++ [y31.1]
            chk (decide (((aJ.take (aJ.length - 1)).length + 1) - 1 = (aJ.take (aJ.length - 1)).length)) (
             some (true, y32.2.1, y32.2.2.1, y32.2.2.2.1, y32.2.2.2.2.1, y32.2.2.2.2.2.1, y32.2.2.2.2.2.2.1, (aJ.take (aJ.length - 1)) ++ [((aJ.getD (aJ.length - 1) (0, 0, [], [], ())).1, (aJ.getD (aJ.length - 1) (0, 0, [], [], ())).2.1, (aJ.getD (aJ.length - 1) (0, 0, [], [], ())).2.2.1, r34, ())], ())))))))))))))
def iW (n : Nat) (x : Er0) : Option (Bool × Er0) :=
 let s1 : List UInt8 := x.1
 let at2 : Int := x.2.1
 let jU : Int := x.2.2.1
 let e4 : Int := x.2.2.2.1
 let kI : Int := x.2.2.2.2.1
 let aZ : List (NdT) := x.2.2.2.2.2.1
 let bA : List (Int × Int × List (Int) × List (Int) × Unit) := x.2.2.2.2.2.2.1
 chk (inB at2 s1.length) (
  let v8 : Int := ((aU 0 s1 at2).toNat : Int)
  br (v8 == 36) (
   let v9 : Int := IntKind.wrap .i64 (at2 + 1)
   ob (bZ n (s1, v9, jU, e4, kI, aZ, ())) fun y10 =>
   br y10.1 (
    ob (aR n (43, y10.2.2.1, y10.2)) fun y11 =>
    some (y11.1, y11.2.1, y11.2.2.1, y11.2.2.2.1, y11.2.2.2.2.1, y11.2.2.2.2.2.1, y11.2.2.2.2.2.2.1, bA, ())) (
    ob (bS n (3, [0, 0, 0, 0], 0, 0, 0, 0, 0, y10.2)) fun y12 =>
    ob (fQ n (y12.1, y12.2.1, y12.2.2.1, y12.2.2.2.1, y12.2.2.2.2.1, y12.2.2.2.2.2.1, y12.2.2.2.2.2.2.1, bA, ())) fun y13 =>
    some (y13))) (
   let v14 : Int := IntKind.wrap .i64 (at2 + 1)
   ob (bZ n (s1, v14, jU, e4, kI, aZ, ())) fun y15 =>
   br y15.1 (
    ob (aR n (43, y15.2.2.1, y15.2)) fun y16 =>
    some (y16.1, y16.2.1, y16.2.2.1, y16.2.2.2.1, y16.2.2.2.2.1, y16.2.2.2.2.2.1, y16.2.2.2.2.2.2.1, bA, ())) (
    ob (bS n (2, [0, 0, 0, 0], 0, 0, 0, 0, 0, y15.2)) fun y17 =>
    ob (fQ n (y17.1, y17.2.1, y17.2.2.1, y17.2.2.2.1, y17.2.2.2.2.1, y17.2.2.2.2.2.1, y17.2.2.2.2.2.2.1, bA, ())) fun y18 =>
    some (y18))))
def iJ (n : Nat) (x : Er0) : Option (Bool × Er0) :=
 let s1 : List UInt8 := x.1
 let at2 : Int := x.2.1
 let jU : Int := x.2.2.1
 let e4 : Int := x.2.2.2.1
 let kI : Int := x.2.2.2.2.1
 let aZ : List (NdT) := x.2.2.2.2.2.1
 let bA : List (Int × Int × List (Int) × List (Int) × Unit) := x.2.2.2.2.2.2.1
 ob (aR n (43, at2, s1, at2, jU, e4, kI, aZ, ())) fun y8 =>
 some (y8.1, y8.2.1, y8.2.2.1, y8.2.2.2.1, y8.2.2.2.2.1, y8.2.2.2.2.2.1, y8.2.2.2.2.2.2.1, bA, ())
def eY (n : Nat) (x : List (Int) × Er0) : Option (Bool × Er0) :=
 let s_1 : List (Int) := x.1
 let s2 : List UInt8 := x.2.1
 let at3 : Int := x.2.2.1
 let zPh : Int := x.2.2.2.1
 let e5 : Int := x.2.2.2.2.1
 let zPi : Int := x.2.2.2.2.2.1
 let yDb : List (NdT) := x.2.2.2.2.2.2.1
 let aJ : List (Int × Int × List (Int) × List (Int) × Unit) := x.2.2.2.2.2.2.2.1
 ob (bS n (1, s_1, 0, 0, 0, 0, 0, s2, at3, zPh, e5, zPi, yDb, ())) fun y9 =>
 ob (fQ n (y9.1, y9.2.1, y9.2.2.1, y9.2.2.2.1, y9.2.2.2.2.1, y9.2.2.2.2.2.1, y9.2.2.2.2.2.2.1, aJ, ())) fun y10 =>
 some (y10)
def nU (n : Nat) (x : Er0) : Option (Bool × Er0) :=
 let s1 : List UInt8 := x.1
 let at2 : Int := x.2.1
 let v8 : Int := IntKind.wrap .i64 (at2 + 1)
 ob (Ia n ([0, 0, 0, 0])) fun y9 =>
 ob (eY n (y9, s1, v8, x.2.2)) fun y10 =>
 some (y10)
def mM (n : Nat) (x : Er0) : Option (Bool × Er0) :=
 let s1 : List UInt8 := x.1
 let at2 : Int := x.2.1
 let jU : Int := x.2.2.1
 let e4 : Int := x.2.2.2.1
 let kI : Int := x.2.2.2.2.1
 let aZ : List (NdT) := x.2.2.2.2.2.1
 let bA : List (Int × Int × List (Int) × List (Int) × Unit) := x.2.2.2.2.2.2.1
 chk ((decide (0 <= at2) && decide (at2 <= (s1.length : Int)))) (
  ob (qY n (s1.drop at2.toNat)) fun y8 =>
  br (y8.2.2 != 0) (
   ob (aR n (y8.2.2, at2, s1, at2, jU, e4, kI, aZ, ())) fun y9 =>
   some (y9.1, y9.2.1, y9.2.2.1, y9.2.2.2.1, y9.2.2.2.2.1, y9.2.2.2.2.2.1, y9.2.2.2.2.2.2.1, bA, ())) (
   let v10 : Int := IntKind.wrap .i64 (at2 + y8.2.1)
   ob (eY n (y8.1, s1, v10, x.2.2)) fun y11 =>
   some (y11)))
def jV (n : Nat) (x : Er0) : Option (Bool × Er0) :=
 let s1 : List UInt8 := x.1
 let at2 : Int := x.2.1
 let jU : Int := x.2.2.1
 let e4 : Int := x.2.2.2.1
 let kI : Int := x.2.2.2.2.1
 let aZ : List (NdT) := x.2.2.2.2.2.1
 let bA : List (Int × Int × List (Int) × List (Int) × Unit) := x.2.2.2.2.2.2.1
 let v8 : Int := IntKind.wrap .i64 (at2 + 1)
 br (v8 == (s1.length : Int)) (
  ob (aR n (40, at2, s1, at2, jU, e4, kI, aZ, ())) fun y9 =>
  some (y9.1, y9.2.1, y9.2.2.1, y9.2.2.2.1, y9.2.2.2.2.1, y9.2.2.2.2.2.1, y9.2.2.2.2.2.2.1, bA, ())) (
  let v10 : Int := IntKind.wrap .i64 (at2 + 1)
  chk (inB v10 s1.length) (
   let v11 : Int := ((aU 0 s1 v10).toNat : Int)
   let v12 : Int := IntKind.wrap .i64 (at2 + 2)
   br (v11 == 110) (
    ob (tH n [10]) fun y13 =>
    ob (eY n (y13, s1, v12, x.2.2)) fun y14 =>
    some (y14)) (
    ob (strings_IndexByte n ([46, 91, 92, 40, 41, 42, 43, 63, 123, 125, 124, 94, 36, 47], v11)) fun y15 =>
    br (decide (y15 ≥ 0)) (
     ob (dO n (v11, v11)) fun y16 =>
     ob (eY n (y16, s1, v12, x.2.2)) fun y17 =>
     some (y17)) (
     br (decide (v11 ≥ 49)) (
      br (decide (v11 <= 57)) (
       ob (aR n (44, at2, s1, v12, jU, e4, kI, aZ, ())) fun y18 =>
       some (y18.1, y18.2.1, y18.2.2.1, y18.2.2.2.1, y18.2.2.2.2.1, y18.2.2.2.2.2.1, y18.2.2.2.2.2.2.1, bA, ())) (
       ob (aR n (40, at2, s1, v12, jU, e4, kI, aZ, ())) fun y19 =>
       some (y19.1, y19.2.1, y19.2.2.1, y19.2.2.2.1, y19.2.2.2.2.1, y19.2.2.2.2.2.1, y19.2.2.2.2.2.2.1, bA, ()))) (
      ob (aR n (40, at2, s1, v12, jU, e4, kI, aZ, ())) fun y20 =>
      some (y20.1, y20.2.1, y20.2.2.1, y20.2.2.2.1, y20.2.2.2.2.1, y20.2.2.2.2.2.1, y20.2.2.2.2.2.2.1, bA, ()))))))
def fT (n : Nat) (g0 : Int × Int × Int × List UInt8 × Int × Int × Value × Int × Int × List (Int) × List (NdT) × Unit -> Option (Er8)) (x15 : Int × Int × Er8) : Option (Er8) :=
 let zSz : Int := x15.1
 let zZl : Int := x15.2.1
 let zPj : Int := x15.2.2.1
 let s19 : List UInt8 := x15.2.2.2.1
 let yNu : Int := x15.2.2.2.2.1
 let yGd : Int := x15.2.2.2.2.2.1
 let yGe : Value := x15.2.2.2.2.2.2.1
 let e23 : Int := x15.2.2.2.2.2.2.2.1
 let yGf : Int := x15.2.2.2.2.2.2.2.2.1
 let Ak : List (Int) := x15.2.2.2.2.2.2.2.2.2.1
 let yLt : List (NdT) := x15.2.2.2.2.2.2.2.2.2.2.1
 br (decide (zPj ≥ 0)) (
  chk ((inB zPj (Ak.length) && decide (0 + (Ak.length) <= Ak.length))) (
   chk (decide (0 + zPj.toNat < Ak.length)) (
    let v27 : Int := Ak.getD (0 + zPj.toNat) (Ty.dflt (.int .i64))
    ob (gG n (zSz, [0, 0, 0, 0], v27, zZl, 0, 0, 0, s19, yNu, yGd, yGe, e23, yGf, yLt, ())) fun y28 =>
    let v29 : Int := IntKind.wrap .i64 (zPj - 1)
    g0 (zSz, y28.1, v29, y28.2.1, y28.2.2.1, y28.2.2.2.1, y28.2.2.2.2.1, y28.2.2.2.2.2.1, y28.2.2.2.2.2.2.1, Ak, y28.2.2.2.2.2.2.2.1, ())))) (
  some (zZl, x15.2.2.2))
def lJ (n : Nat) (x : Er8) : Option (Er8) :=
 let yJk : Int := x.1
 let bM : List (Int) := x.2.2.2.2.2.2.2.1
 let v10 : Int := ((bM.length : Nat) : Int)
 let v11 : Int := IntKind.wrap .i64 (v10 - 1)
 chk ((inB v11 (bM.length) && decide (0 + (bM.length) <= bM.length))) (
  chk (decide (0 + v11.toNat < bM.length)) (
   let v12 : Int := bM.getD (0 + v11.toNat) (Ty.dflt (.int .i64))
   let v13 : Int := ((bM.length : Nat) : Int)
   let v14 : Int := IntKind.wrap .i64 (v13 - 2)
   fix (fT n) n (yJk, v12, v14, x.2)))
def eP (n:Nat) (x:Int × List UInt8 × Int × Int × Er2):Option (Int × List UInt8 × Int × Int × Er2):=match lJ n (x.1,x.2.1,x.2.2.1,x.2.2.2.1,Value.nilFunc,x.2.2.2.2) with | some y=>some (y.1,y.2.1,y.2.2.1,y.2.2.2.1,y.2.2.2.2.2) | none=>none
def gH (n : Nat) (x : Er0) : Option (Bool × Er0) :=
 let s1 : List UInt8 := x.1
 let at2 : Int := x.2.1
 let jU : Int := x.2.2.1
 let e4 : Int := x.2.2.2.1
 let kI : Int := x.2.2.2.2.1
 let aZ : List (NdT) := x.2.2.2.2.2.1
 let bA : List (Int × Int × List (Int) × List (Int) × Unit) := x.2.2.2.2.2.2.1
 chk (Nat.ble 1 bA.length) (
  chk (Nat.ble 1 ((bA.take (bA.length - 1)).length + 1)) (
   chk (decide (((bA.take (bA.length - 1)).length + 1) - 1 = (bA.take (bA.length - 1)).length)) (
    let v8 : Int := (((bA.getD (bA.length - 1) (0, 0, [], [], ())).2.2.2.1.length : Nat) : Int)
    br (v8 == 0) (
     ob (aR n (40, at2, s1, at2, jU, e4, kI, aZ, ())) fun y9 =>
     some (y9.1, y9.2.1, y9.2.2.1, y9.2.2.2.1, y9.2.2.2.2.1, y9.2.2.2.2.2.1, y9.2.2.2.2.2.2.1, (bA.take (bA.length - 1)) ++ [((bA.getD (bA.length - 1) (0, 0, [], [], ())).1, (bA.getD (bA.length - 1) (0, 0, [], [], ())).2.1, (bA.getD (bA.length - 1) (0, 0, [], [], ())).2.2.1, (bA.getD (bA.length - 1) (0, 0, [], [], ())).2.2.2.1, ())], ())) (
     chk (decide (((bA.take (bA.length - 1)).length + 1) - 1 = (bA.take (bA.length - 1)).length)) (
      chk (decide (((bA.take (bA.length - 1)).length + 1) - 1 = (bA.take (bA.length - 1)).length)) (
       ob (eP n (4, s1, at2, jU, e4, kI, (bA.getD (bA.length - 1) (0, 0, [], [], ())).2.2.2.1, aZ, ())) fun y10 =>
       chk (Nat.ble (((bA.getD (bA.length - 1) (0, 0, [], [], ())).2.2.1.length + ([y10.1] : List (Int)).length) * 8) room) (
        let r11 : List (Int) := (bA.getD (bA.length - 1) (0, 0, [], [], ())).2.2.1 ++ [y10.1]
        chk (decide (((bA.take (bA.length - 1)).length + 1) - 1 = (bA.take (bA.length - 1)).length)) (
         chk (decide (((bA.take (bA.length - 1)).length + 1) - 1 = (bA.take (bA.length - 1)).length)) (
          some (true, y10.2.1, y10.2.2.1, y10.2.2.2.1, y10.2.2.2.2.1, y10.2.2.2.2.2.1, y10.2.2.2.2.2.2.2.1, (bA.take (bA.length - 1)) ++ [((bA.getD (bA.length - 1) (0, 0, [], [], ())).1, (bA.getD (bA.length - 1) (0, 0, [], [], ())).2.1, r11, [], ())], ()))))))))))
def lK (n : Nat) (x : Er0) : Option (Bool × Er0) :=
 ob (gH n (x)) fun y8 =>
 br (!y8.1) (
  some (false, y8.2)) (
  let v9 : Int := IntKind.wrap .i64 (y8.2.2.1 + 1)
  some (true, y8.2.1, v9, y8.2.2.2))
def mO (n : Nat) (x : Er0) : Option (Bool × Er0) :=
 let s1 : List UInt8 := x.1
 let at2 : Int := x.2.1
 let jU : Int := x.2.2.1
 let e4 : Int := x.2.2.2.1
 let kI : Int := x.2.2.2.2.1
 let aZ : List (NdT) := x.2.2.2.2.2.1
 let bA : List (Int × Int × List (Int) × List (Int) × Unit) := x.2.2.2.2.2.2.1
 br (jU == 9) (
  ob (aR n (41, at2, s1, at2, jU, e4, kI, aZ, ())) fun y8 =>
  some (y8.1, y8.2.1, y8.2.2.1, y8.2.2.2.1, y8.2.2.2.2.1, y8.2.2.2.2.2.1, y8.2.2.2.2.2.2.1, bA, ())) (
  let v9 : Int := IntKind.wrap .i64 (jU + 1)
  chk (Nat.ble ((bA.length + ([(at2, v9, [], [], ())] : List (Int × Int × List Int × List Int × Unit)).length) * 64) room) (
   let v10 : Int := IntKind.wrap .i64 (at2 + 1)
   some (true, s1, v10, v9, e4, kI, aZ, bA ++ [(at2, v9, [], [], ())], ())))
def iC (n : Nat) (x : Er0) : Option (Bool × Er0) :=
 let s1 : List UInt8 := x.1
 let at2 : Int := x.2.1
 let jU : Int := x.2.2.1
 let e4 : Int := x.2.2.2.1
 let kI : Int := x.2.2.2.2.1
 let aZ : List (NdT) := x.2.2.2.2.2.1
 let bA : List (Int × Int × List (Int) × List (Int) × Unit) := x.2.2.2.2.2.2.1
 let v8 : Int := ((bA.length + 0 : Nat) : Int)
 br (v8 == 1) (
  ob (aR n (41, at2, s1, at2, jU, e4, kI, aZ, ())) fun y9 =>
  some (y9.1, y9.2.1, y9.2.2.1, y9.2.2.2.1, y9.2.2.2.2.1, y9.2.2.2.2.2.1, y9.2.2.2.2.2.2.1, bA, ())) (
  ob (gH n (x)) fun y10 =>
  let mP := y10.2.2.2.2.2.2
  br (!y10.1) (
   some (false, y10.2)) (
   chk (Nat.ble 1 mP.2.1.length) (
    chk (Nat.ble 1 ((mP.2.1.take (mP.2.1.length - 1)).length + 1)) (
     chk (decide (((mP.2.1.take (mP.2.1.length - 1)).length + 1) - 1 = (mP.2.1.take (mP.2.1.length - 1)).length)) (
      let v11 : Int := (((mP.2.1.take (mP.2.1.length - 1)).length + 1 : Nat) : Int)
      let v12 : Int := IntKind.wrap .i64 (v11 - 1)
      chk ((decide (0 <= v12) && decide (v12 <= ((mP.2.1.take (mP.2.1.length - 1)).length + 1 : Int)))) (
       chk (Nat.ble (v12.toNat) (mP.2.1.take (mP.2.1.length - 1)).length) (
        let v13 : Int := IntKind.wrap .i64 (y10.2.2.1 + 1)
        ob (eP n (5, y10.2.1, v13, y10.2.2.2.1, y10.2.2.2.2.1, y10.2.2.2.2.2.1, (mP.2.1.getD (mP.2.1.length - 1) (0, 0, [], [], ())).2.2.1, mP.1, ())) fun y14 =>
        let v15 : Int := (mP.2.1.getD (mP.2.1.length - 1) (0, 0, [], [], ())).2.1
        ob (bS n (7, [0, 0, 0, 0], y14.1, 0, 0, 0, v15, y14.2.1, y14.2.2.1, y14.2.2.2.1, y14.2.2.2.2.1, y14.2.2.2.2.2.1, y14.2.2.2.2.2.2.2.1, ())) fun y16 =>
        ob (fQ n (y16.1, y16.2.1, y16.2.2.1, y16.2.2.2.1, y16.2.2.2.2.1, y16.2.2.2.2.2.1, y16.2.2.2.2.2.2.1, (mP.2.1.take (mP.2.1.length - 1)).take (v12.toNat), ())) fun y17 =>
        some (y17))))))))
def aH (n : Nat) (g0 : List UInt8 × Int × Int × Int × Int × List (NdT) × List (Int × Int × List (Int) × List (Int) × Unit) × Unit -> Option (Bool × Er0)) (x8 : Er0) : Option (Bool × Er0) :=
 let s9 : List UInt8 := x8.1
 let zHl : Int := x8.2.1
 br (decide (zHl < (s9.length : Int))) (
  chk (inB zHl s9.length) (
   let v16 : Int := ((aU 0 s9 zHl).toNat : Int)
   br (v16 == 94 || (v16 == 36 || (v16 == 42 || (v16 == 43 || (v16 == 63 || (v16 == 123 || (v16 == 46 || (v16 == 91 || (v16 == 92 || (v16 == 124 || (v16 == 40 || (v16 == 41 || false)))))))))))) (
    br (v16 == 94) (
     ob (iW n (x8)) fun y17 =>
     br (!y17.1) (
      some (false, y17.2)) (
      g0 (y17.2))) (
     br (v16 == 36) (
      ob (iW n (x8)) fun y18 =>
      br (!y18.1) (
       some (false, y18.2)) (
       g0 (y18.2))) (
      br (v16 == 42) (
       ob (iJ n (x8)) fun y19 =>
       br (!y19.1) (
        some (false, y19.2)) (
        g0 (y19.2))) (
       br (v16 == 43) (
        ob (iJ n (x8)) fun y20 =>
        br (!y20.1) (
         some (false, y20.2)) (
         g0 (y20.2))) (
        br (v16 == 63) (
         ob (iJ n (x8)) fun y21 =>
         br (!y21.1) (
          some (false, y21.2)) (
          g0 (y21.2))) (
         br (v16 == 123) (
          ob (iJ n (x8)) fun y22 =>
          br (!y22.1) (
           some (false, y22.2)) (
           g0 (y22.2))) (
          br (v16 == 46) (
           ob (nU n (x8)) fun y23 =>
           br (!y23.1) (
            some (false, y23.2)) (
            g0 (y23.2))) (
           br (v16 == 91) (
            ob (mM n (x8)) fun y24 =>
            br (!y24.1) (
             some (false, y24.2)) (
             g0 (y24.2))) (
            br (v16 == 92) (
             ob (jV n (x8)) fun y25 =>
             br (!y25.1) (
              some (false, y25.2)) (
              g0 (y25.2))) (
             br (v16 == 124) (
              ob (lK n (x8)) fun y26 =>
              br (!y26.1) (
               some (false, y26.2)) (
               g0 (y26.2))) (
              br (v16 == 40) (
               ob (mO n (x8)) fun y27 =>
               br (!y27.1) (
                some (false, y27.2)) (
                g0 (y27.2))) (
               br (v16 == 41) (
                ob (iC n (x8)) fun y28 =>
                br (!y28.1) (
                 some (false, y28.2)) (
                 g0 (y28.2))) (
                none))))))))))))) (
    let v29 : Int := IntKind.wrap .i64 (zHl + 1)
    let v30 : Int := IntKind.wrap .i64 (v29 - 1)
    chk ((decide (0 <= v29) && decide (v29 <= (s9.length : Int)) && (decide (0 <= v30) && decide (v30 <= v29)))) (
     let v31 : List UInt8 := (s9.take v29.toNat).drop v30.toNat
     ob (tH n v31) fun y32 =>
     ob (eY n (y32, s9, v29, x8.2.2)) fun y33 =>
     br (!y33.1) (
      some (false, y33.2)) (
      g0 (y33.2)))))) (
  ob (gH n (x8)) fun y34 =>
  let lT := y34.2.2.2.2.2.2
  br (!y34.1) (
   some (false, y34.2)) (
   let v35 : Int := ((lT.2.1.length + 0 : Nat) : Int)
   br (decide (v35 > 1)) (
    chk (Nat.ble 1 (lT.2.1.length + 0)) (
     chk (decide ((lT.2.1.length + 0) - 1 < lT.2.1.length)) (
      let v36 : Int := (lT.2.1.getD ((lT.2.1.length + 0) - 1) (0, 0, [], [], ())).1
      ob (aR n (41, v36, y34.2.1, y34.2.2.1, y34.2.2.2.1, y34.2.2.2.2.1, y34.2.2.2.2.2.1, y34.2.2.2.2.2.2.1, ())) fun y37 =>
      some (y37.1, y37.2.1, y37.2.2.1, y37.2.2.2.1, y37.2.2.2.2.1, y37.2.2.2.2.2.1, y37.2.2.2.2.2.2.1, lT.2.1, ())))) (
    chk (Nat.ble 1 lT.2.1.length) (
     chk (Nat.ble 1 ((lT.2.1.take (lT.2.1.length - 1)).length + 1)) (
      chk (decide (((lT.2.1.take (lT.2.1.length - 1)).length + 1) - 1 = (lT.2.1.take (lT.2.1.length - 1)).length)) (
       ob (eP n (5, y34.2.1, y34.2.2.1, y34.2.2.2.1, y34.2.2.2.2.1, y34.2.2.2.2.2.1, (lT.2.1.getD (lT.2.1.length - 1) (0, 0, [], [], ())).2.2.1, lT.1, ())) fun y38 =>
       let v39 : Int := ((y38.2.2.2.2.2.2.2.1.length : Nat) : Int)
       br (decide (v39 <= 120)) (
        some (true, y38.2.1, y38.2.2.1, y38.2.2.2.1, y38.2.2.2.2.1, y38.2.2.2.2.2.1, y38.2.2.2.2.2.2.2.1, lT.2.1.take (lT.2.1.length - 1), ())) (
        ob (aR n (2, 0, y38.2.1, y38.2.2.1, y38.2.2.2.1, y38.2.2.2.2.1, y38.2.2.2.2.2.1, y38.2.2.2.2.2.2.2.1, ())) fun y40 =>
        some (y40.1, y40.2.1, y40.2.2.1, y40.2.2.2.1, y40.2.2.2.2.1, y40.2.2.2.2.2.1, y40.2.2.2.2.2.2.1, lT.2.1.take (lT.2.1.length - 1), ()))))))))
def sM (n : Nat) (x : Er0) : Option (Bool × Er0) :=
 fix (aH n) n (x)
def nO (n : Nat) (x : List UInt8) : Option (List (NdT) × Int × Int) :=
 let s_0 : List UInt8 := x
 br (s_0 == []) (
  some ([(0, ([0, 0, 0, 0], (0, (0, (0, (0, (0, ())))))))], 0, 0)) (
  ob (sM n (s_0, 0, 0, 0, 0, [], [(0, 0, [], [], ())], ())) fun y1 =>
  br (!y1.1) (
   some ([], y1.2.2.2.2.2.1, y1.2.2.2.2.1)) (
   some (y1.2.2.2.2.2.2.1, 0, 0)))
def zBr (n : Nat) (x : List (Int)) : Option (List UInt8) :=
 let s_0 : List (Int) := x
 ob (vF n s_0) fun y1 =>
 br ((y1.length : Int) != 1) (
  ob (Qi n s_0) fun y2 =>
  some y2) (
  br (y1 == [10]) (
   ob (Qi n s_0) fun y3 =>
   some y3) (
   ob (strings_Contains n ([46, 91, 92, 40, 41, 42, 43, 63, 123, 125, 124, 94, 36], y1)) fun y4 =>
   br y4 (
    chk (decide ([92].length + y1.length <= aP)) (
     some ([92] ++ y1))) (
    some y1)))
def Vk (n : Nat) (x : Er5) : Option (List UInt8) :=
 let n_0 : Int × List (Int) × Int × Int × Int × Int × Int × Unit := x
 ob (strconv_Itoa n n_0.2.2.2.2.1) fun y1 =>
 ob (strconv_Itoa n n_0.2.2.2.2.2.1) fun y2 =>
 br (n_0.2.2.2.2.2.1 == (-1)) (
  br (n_0.2.2.2.2.1 == 0) (
   some [42]) (
   br (n_0.2.2.2.2.2.1 == (-1)) (
    br (n_0.2.2.2.2.1 == 1) (
     some [43]) (
     br (n_0.2.2.2.2.2.1 == 1) (
      br (n_0.2.2.2.2.1 == 0) (
       some [63]) (
       br (n_0.2.2.2.2.2.1 == (-1)) (
        chk (decide ([123].length + y1.length <= aP)) (
         chk (decide (([123] ++ y1).length + ([44, 125] : List UInt8).length <= aP)) (
          let v3 : List UInt8 := ([123] ++ y1) ++ [44, 125]
          some v3))) (
        br (n_0.2.2.2.2.2.1 == n_0.2.2.2.2.1) (
         chk (decide ([123].length + y1.length <= aP)) (
          chk (decide (([123] ++ y1).length + ([125] : List UInt8).length <= aP)) (
           some (([123] ++ y1) ++ [125])))) (
         chk (decide ([123].length + y1.length <= aP)) (
          chk (decide (([123] ++ y1).length + ([44] : List UInt8).length <= aP)) (
           chk (decide ((([123] ++ y1) ++ [44]).length + y2.length <= aP)) (
            let v4 : List UInt8 := (([123] ++ y1) ++ [44]) ++ y2
            chk (decide (v4.length + ([125] : List UInt8).length <= aP)) (
             some (v4 ++ [125]))))))))) (
      br (n_0.2.2.2.2.2.1 == (-1)) (
       chk (decide ([123].length + y1.length <= aP)) (
        chk (decide (([123] ++ y1).length + ([44, 125] : List UInt8).length <= aP)) (
         let v5 : List UInt8 := ([123] ++ y1) ++ [44, 125]
         some v5))) (
       br (n_0.2.2.2.2.2.1 == n_0.2.2.2.2.1) (
        chk (decide ([123].length + y1.length <= aP)) (
         chk (decide (([123] ++ y1).length + ([125] : List UInt8).length <= aP)) (
          some (([123] ++ y1) ++ [125])))) (
        chk (decide ([123].length + y1.length <= aP)) (
         chk (decide (([123] ++ y1).length + ([44] : List UInt8).length <= aP)) (
          chk (decide ((([123] ++ y1) ++ [44]).length + y2.length <= aP)) (
           let v6 : List UInt8 := (([123] ++ y1) ++ [44]) ++ y2
           chk (decide (v6.length + ([125] : List UInt8).length <= aP)) (
            some (v6 ++ [125])))))))))) (
    br (n_0.2.2.2.2.2.1 == 1) (
     br (n_0.2.2.2.2.1 == 0) (
      some [63]) (
      br (n_0.2.2.2.2.2.1 == (-1)) (
       chk (decide ([123].length + y1.length <= aP)) (
        chk (decide (([123] ++ y1).length + ([44, 125] : List UInt8).length <= aP)) (
         let v7 : List UInt8 := ([123] ++ y1) ++ [44, 125]
         some v7))) (
       br (n_0.2.2.2.2.2.1 == n_0.2.2.2.2.1) (
        chk (decide ([123].length + y1.length <= aP)) (
         chk (decide (([123] ++ y1).length + ([125] : List UInt8).length <= aP)) (
          some (([123] ++ y1) ++ [125])))) (
        chk (decide ([123].length + y1.length <= aP)) (
         chk (decide (([123] ++ y1).length + ([44] : List UInt8).length <= aP)) (
          chk (decide ((([123] ++ y1) ++ [44]).length + y2.length <= aP)) (
           let v8 : List UInt8 := (([123] ++ y1) ++ [44]) ++ y2
           chk (decide (v8.length + ([125] : List UInt8).length <= aP)) (
            some (v8 ++ [125]))))))))) (
     br (n_0.2.2.2.2.2.1 == (-1)) (
      chk (decide ([123].length + y1.length <= aP)) (
       chk (decide (([123] ++ y1).length + ([44, 125] : List UInt8).length <= aP)) (
        let v9 : List UInt8 := ([123] ++ y1) ++ [44, 125]
        some v9))) (
      br (n_0.2.2.2.2.2.1 == n_0.2.2.2.2.1) (
       chk (decide ([123].length + y1.length <= aP)) (
        chk (decide (([123] ++ y1).length + ([125] : List UInt8).length <= aP)) (
         some (([123] ++ y1) ++ [125])))) (
       chk (decide ([123].length + y1.length <= aP)) (
        chk (decide (([123] ++ y1).length + ([44] : List UInt8).length <= aP)) (
         chk (decide ((([123] ++ y1) ++ [44]).length + y2.length <= aP)) (
          let v10 : List UInt8 := (([123] ++ y1) ++ [44]) ++ y2
          chk (decide (v10.length + ([125] : List UInt8).length <= aP)) (
           some (v10 ++ [125]))))))))))) (
  br (n_0.2.2.2.2.2.1 == (-1)) (
   br (n_0.2.2.2.2.1 == 1) (
    some [43]) (
    br (n_0.2.2.2.2.2.1 == 1) (
     br (n_0.2.2.2.2.1 == 0) (
      some [63]) (
      br (n_0.2.2.2.2.2.1 == (-1)) (
       chk (decide ([123].length + y1.length <= aP)) (
        chk (decide (([123] ++ y1).length + ([44, 125] : List UInt8).length <= aP)) (
         let v11 : List UInt8 := ([123] ++ y1) ++ [44, 125]
         some v11))) (
       br (n_0.2.2.2.2.2.1 == n_0.2.2.2.2.1) (
        chk (decide ([123].length + y1.length <= aP)) (
         chk (decide (([123] ++ y1).length + ([125] : List UInt8).length <= aP)) (
          some (([123] ++ y1) ++ [125])))) (
        chk (decide ([123].length + y1.length <= aP)) (
         chk (decide (([123] ++ y1).length + ([44] : List UInt8).length <= aP)) (
          chk (decide ((([123] ++ y1) ++ [44]).length + y2.length <= aP)) (
           let v12 : List UInt8 := (([123] ++ y1) ++ [44]) ++ y2
           chk (decide (v12.length + ([125] : List UInt8).length <= aP)) (
            some (v12 ++ [125]))))))))) (
     br (n_0.2.2.2.2.2.1 == (-1)) (
      chk (decide ([123].length + y1.length <= aP)) (
       chk (decide (([123] ++ y1).length + ([44, 125] : List UInt8).length <= aP)) (
        let v13 : List UInt8 := ([123] ++ y1) ++ [44, 125]
        some v13))) (
      br (n_0.2.2.2.2.2.1 == n_0.2.2.2.2.1) (
       chk (decide ([123].length + y1.length <= aP)) (
        chk (decide (([123] ++ y1).length + ([125] : List UInt8).length <= aP)) (
         some (([123] ++ y1) ++ [125])))) (
       chk (decide ([123].length + y1.length <= aP)) (
        chk (decide (([123] ++ y1).length + ([44] : List UInt8).length <= aP)) (
         chk (decide ((([123] ++ y1) ++ [44]).length + y2.length <= aP)) (
          let v14 : List UInt8 := (([123] ++ y1) ++ [44]) ++ y2
          chk (decide (v14.length + ([125] : List UInt8).length <= aP)) (
           some (v14 ++ [125])))))))))) (
   br (n_0.2.2.2.2.2.1 == 1) (
    br (n_0.2.2.2.2.1 == 0) (
     some [63]) (
     br (n_0.2.2.2.2.2.1 == (-1)) (
      chk (decide ([123].length + y1.length <= aP)) (
       chk (decide (([123] ++ y1).length + ([44, 125] : List UInt8).length <= aP)) (
        let v15 : List UInt8 := ([123] ++ y1) ++ [44, 125]
        some v15))) (
      br (n_0.2.2.2.2.2.1 == n_0.2.2.2.2.1) (
       chk (decide ([123].length + y1.length <= aP)) (
        chk (decide (([123] ++ y1).length + ([125] : List UInt8).length <= aP)) (
         some (([123] ++ y1) ++ [125])))) (
       chk (decide ([123].length + y1.length <= aP)) (
        chk (decide (([123] ++ y1).length + ([44] : List UInt8).length <= aP)) (
         chk (decide ((([123] ++ y1) ++ [44]).length + y2.length <= aP)) (
          let v16 : List UInt8 := (([123] ++ y1) ++ [44]) ++ y2
          chk (decide (v16.length + ([125] : List UInt8).length <= aP)) (
           some (v16 ++ [125]))))))))) (
    br (n_0.2.2.2.2.2.1 == (-1)) (
     chk (decide ([123].length + y1.length <= aP)) (
      chk (decide (([123] ++ y1).length + ([44, 125] : List UInt8).length <= aP)) (
       let v17 : List UInt8 := ([123] ++ y1) ++ [44, 125]
       some v17))) (
     br (n_0.2.2.2.2.2.1 == n_0.2.2.2.2.1) (
      chk (decide ([123].length + y1.length <= aP)) (
       chk (decide (([123] ++ y1).length + ([125] : List UInt8).length <= aP)) (
        some (([123] ++ y1) ++ [125])))) (
      chk (decide ([123].length + y1.length <= aP)) (
       chk (decide (([123] ++ y1).length + ([44] : List UInt8).length <= aP)) (
        chk (decide ((([123] ++ y1) ++ [44]).length + y2.length <= aP)) (
         let v18 : List UInt8 := (([123] ++ y1) ++ [44]) ++ y2
         chk (decide (v18.length + ([125] : List UInt8).length <= aP)) (
          some (v18 ++ [125]))))))))))
def zFa (n : Nat) (g0 : List (NdT) × List (NdT) × Int × Int × List (List UInt8) × Unit -> Option (List UInt8 × Int)) (x3 : List (NdT) × List (NdT) × Int × Int × List (List UInt8) × Unit) : Option (List UInt8 × Int) :=
 let l_4 : List (NdT) := x3.1
 let Av : List (NdT) := x3.2.1
 let Dw : Int := x3.2.2.1
 let fO : Int := x3.2.2.2.1
 let bM : List (List UInt8) := x3.2.2.2.2.1
 br (decide (fO < Dw)) (
  chk (inB fO Av.length) (
   let v9 : Int × List (Int) × Int × Int × Int × Int × Int × Unit := aU (Ty.dflt aC) Av fO
   br (v9.1 == 1) (
    ob (zBr n v9.2.1) fun y10 =>
    chk ((inB fO (bM.length) && decide (0 + (bM.length) <= bM.length))) (
     chk (decide (0 + fO.toNat < bM.length)) (
      let r11 : List (List UInt8) := bM.set (0 + fO.toNat) y10
      let v12 : Int := IntKind.wrap .i64 (fO + 1)
      g0 (l_4, Av, Dw, v12, r11, ())))) (
    br (v9.1 == 2) (
     chk ((inB fO (bM.length) && decide (0 + (bM.length) <= bM.length))) (
      chk (decide (0 + fO.toNat < bM.length)) (
       let r13 : List (List UInt8) := bM.set (0 + fO.toNat) [94]
       let v14 : Int := IntKind.wrap .i64 (fO + 1)
       g0 (l_4, Av, Dw, v14, r13, ())))) (
     br (v9.1 == 3) (
      chk ((inB fO (bM.length) && decide (0 + (bM.length) <= bM.length))) (
       chk (decide (0 + fO.toNat < bM.length)) (
        let r15 : List (List UInt8) := bM.set (0 + fO.toNat) [36]
        let v16 : Int := IntKind.wrap .i64 (fO + 1)
        g0 (l_4, Av, Dw, v16, r15, ())))) (
      br (v9.1 == 4) (
       chk ((inB v9.2.2.1 (bM.length) && decide (0 + (bM.length) <= bM.length))) (
        chk (decide (0 + v9.2.2.1.toNat < bM.length)) (
         let v17 : List UInt8 := bM.getD (0 + v9.2.2.1.toNat) (Ty.dflt .str)
         chk ((inB v9.2.2.2.1 (bM.length) && decide (0 + (bM.length) <= bM.length))) (
          chk (decide (0 + v9.2.2.2.1.toNat < bM.length)) (
           let v18 : List UInt8 := bM.getD (0 + v9.2.2.2.1.toNat) (Ty.dflt .str)
           chk (decide (v17.length + v18.length <= aP)) (
            chk ((inB fO (bM.length) && decide (0 + (bM.length) <= bM.length))) (
             chk (decide (0 + fO.toNat < bM.length)) (
              let r19 : List (List UInt8) := bM.set (0 + fO.toNat) (v17 ++ v18)
              let v20 : Int := IntKind.wrap .i64 (fO + 1)
              g0 (l_4, Av, Dw, v20, r19, ()))))))))) (
       br (v9.1 == 5) (
        chk ((inB v9.2.2.1 (bM.length) && decide (0 + (bM.length) <= bM.length))) (
         chk (decide (0 + v9.2.2.1.toNat < bM.length)) (
          let v21 : List UInt8 := bM.getD (0 + v9.2.2.1.toNat) (Ty.dflt .str)
          chk (decide (v21.length + ([124] : List UInt8).length <= aP)) (
           chk ((inB v9.2.2.2.1 (bM.length) && decide (0 + (bM.length) <= bM.length))) (
            chk (decide (0 + v9.2.2.2.1.toNat < bM.length)) (
             let v22 : List UInt8 := bM.getD (0 + v9.2.2.2.1.toNat) (Ty.dflt .str)
             chk (decide ((v21 ++ [124]).length + v22.length <= aP)) (
              chk ((inB fO (bM.length) && decide (0 + (bM.length) <= bM.length))) (
               chk (decide (0 + fO.toNat < bM.length)) (
                let r23 : List (List UInt8) := bM.set (0 + fO.toNat) ((v21 ++ [124]) ++ v22)
                let v24 : Int := IntKind.wrap .i64 (fO + 1)
                g0 (l_4, Av, Dw, v24, r23, ())))))))))) (
        br (v9.1 == 6) (
         chk ((inB v9.2.2.1 (bM.length) && decide (0 + (bM.length) <= bM.length))) (
          chk (decide (0 + v9.2.2.1.toNat < bM.length)) (
           let v25 : List UInt8 := bM.getD (0 + v9.2.2.1.toNat) (Ty.dflt .str)
           ob (Vk n v9) fun y26 =>
           chk (decide (v25.length + y26.length <= aP)) (
            chk ((inB fO (bM.length) && decide (0 + (bM.length) <= bM.length))) (
             chk (decide (0 + fO.toNat < bM.length)) (
              let r27 : List (List UInt8) := bM.set (0 + fO.toNat) (v25 ++ y26)
              let v28 : Int := IntKind.wrap .i64 (fO + 1)
              g0 (l_4, Av, Dw, v28, r27, ()))))))) (
         br (v9.1 == 7) (
          chk ((inB v9.2.2.1 (bM.length) && decide (0 + (bM.length) <= bM.length))) (
           chk (decide (0 + v9.2.2.1.toNat < bM.length)) (
            let v29 : List UInt8 := bM.getD (0 + v9.2.2.1.toNat) (Ty.dflt .str)
            chk (decide ([40].length + v29.length <= aP)) (
             chk (decide (([40] ++ v29).length + ([41] : List UInt8).length <= aP)) (
              chk ((inB fO (bM.length) && decide (0 + (bM.length) <= bM.length))) (
               chk (decide (0 + fO.toNat < bM.length)) (
                let r30 : List (List UInt8) := bM.set (0 + fO.toNat) (([40] ++ v29) ++ [41])
                let v31 : Int := IntKind.wrap .i64 (fO + 1)
                g0 (l_4, Av, Dw, v31, r30, ())))))))) (
          br (v9.1 == 8) (
           ob (strconv_Itoa n v9.2.2.2.2.2.2.1) fun y32 =>
           chk (decide ([92].length + y32.length <= aP)) (
            chk ((inB fO (bM.length) && decide (0 + (bM.length) <= bM.length))) (
             chk (decide (0 + fO.toNat < bM.length)) (
              let r33 : List (List UInt8) := bM.set (0 + fO.toNat) ([92] ++ y32)
              let v34 : Int := IntKind.wrap .i64 (fO + 1)
              g0 (l_4, Av, Dw, v34, r33, ()))))) (
           let v35 : Int := IntKind.wrap .i64 (fO + 1)
           g0 (l_4, Av, Dw, v35, bM, ()))))))))))) (
  let v36 : Int := IntKind.wrap .i64 ((l_4.length : Int) - 1)
  chk ((inB v36 (bM.length) && decide (0 + (bM.length) <= bM.length))) (
   chk (decide (0 + v36.toNat < bM.length)) (
    let v37 : List UInt8 := bM.getD (0 + v36.toNat) (Ty.dflt .str)
    ob (nO n v37) fun y38 =>
    br (y38.2.2 != 0) (
     some ([], 1)) (
     ob (Xv n y38.1) fun y39 =>
     ob (Xv n l_4) fun y40 =>
     br (!(y39 == y40)) (
      some ([], 1)) (
      some (v37, 0))))))
def Vl (n : Nat) (x : List (NdT)) : Option (List UInt8 × Int) :=
 let l_0 : List (NdT) := x
 ob (tJ n l_0) fun y1 =>
 br (!y1) (
  some ([], 1)) (
  chk ((decide (0 <= (l_0.length : Int)) && (decide ((l_0.length : Int) = (l_0.length : Int)) && Nat.ble ((l_0.length : Int).toNat * 16) room))) (
   let r2 : List (List UInt8) := List.replicate (l_0.length : Int).toNat []
   fix (zFa n) n (l_0, l_0, (l_0.length : Int), 0, r2, ())))
def tX (n : Nat) (x : Unit) : Option (Bool) :=
 ob (nO n [94, 40, 97, 124, 98, 43, 41, 123, 50, 44, 51, 125, 36, 124, 99, 63]) fun y1 =>
 ob (Vl n y1.1) fun y2 =>
 ob (nO n [97, 40, 98]) fun y3 =>
 br (y1.2.2 == 0) (
  br (y2.2 == 0) (
   br (y1.2.1 == 0) (
    br (y2.1 == [94, 40, 97, 124, 98, 43, 41, 123, 50, 44, 51, 125, 36, 124, 99, 63]) (
     ob (Ul n y1.1) fun y4 =>
     br (y4 == 1) (
      br (y3.2.1 == 1) (
       some (y3.2.2 == 41)) (
       some false)) (
      some false)) (
     some false)) (
    some false)) (
   some false)) (
  some false)
def bE (n : Nat) (x : (Er1) × Int × Int) : Option (Er1) :=
 let t_0 : List (NdT) × Int × Int × Int × Unit := x.1
 let Qh : Int := x.2.1
 let e_2 : Int := x.2.2
 some (t_0.1, (t_0.2.1, (Qh, (e_2, ()))))
def jG (n : Nat) (x : List UInt8 × Int) : Option (Bool) :=
 let s_0 : List UInt8 := x.1
 let i_1 : Int := x.2
 br (i_1 == (s_0.length : Int)) (
  some true) (
  chk (inB i_1 s_0.length) (
   let v1 : Int := ((aU 0 s_0 i_1).toNat : Int)
   br (v1 == 124) (
    some true) (
    chk (inB i_1 s_0.length) (
     let v2 : Int := ((aU 0 s_0 i_1).toNat : Int)
     some (v2 == 41)))))
def zHm (n : Nat) (g0 : List UInt8 × Int × Int × Unit -> Option (Bool)) (x1 : List UInt8 × Int × Int × Unit) : Option (Bool) :=
 let s_2 : List UInt8 := x1.1
 let b_3 : Int := x1.2.1
 let i_4 : Int := x1.2.2.1
 br (decide (i_4 < (s_2.length : Int))) (
  chk (inB i_4 s_2.length) (
   let v5 : Int := ((aU 0 s_2 i_4).toNat : Int)
   br (v5 == b_3) (
    some true) (
    let v6 : Int := IntKind.wrap .i64 (i_4 + 1)
    g0 (s_2, b_3, v6, ())))) (
  some false)
def yT (n : Nat) (x : List UInt8 × Int) : Option (Bool) :=
 let s_0 : List UInt8 := x.1
 let b_1 : Int := x.2
 fix (zHm n) n (s_0, b_1, 0, ())
def fB (n : Nat) (x : List UInt8 × Int) : Option (Bool) :=
 let s_0 : List UInt8 := x.1
 let i_1 : Int := x.2
 br (decide (i_1 < (s_0.length : Int))) (
  chk (inB i_1 s_0.length) (
   let v1 : Int := ((aU 0 s_0 i_1).toNat : Int)
   ob (yT n ([42, 43, 63, 123], v1)) fun y2 =>
   some y2)) (
  some false)
def eH (n : Nat) (x : (Er1) × Er5) : Option (Er1) :=
 let t_0 : List (NdT) × Int × Int × Int × Unit := x.1
 let n_1 : Int × List (Int) × Int × Int × Int × Int × Int × Unit := x.2
 chk (Nat.ble ((([] : List (NdT)).length + t_0.1.length) * 80) room) (
  chk (Nat.ble ((([] ++ t_0.1 : List (NdT)).length + ([n_1] : List (NdT)).length) * 80) room) (
   some (([] ++ t_0.1) ++ [n_1], t_0.2)))
def lU (n : Nat) (x : (Er1) × List (Bool)) : Option (Er1) :=
 let t_0 : List (NdT) × Int × Int × Int × Unit := x.1
 let a_1 : List (Bool) := x.2
 ob (xR n a_1) fun y1 =>
 ob (eH n (t_0, (1, (y1, (0, (0, (0, (0, (0, ()))))))))) fun y2 =>
 some y2
def jH (n : Nat) (x : List UInt8 × Int) : Option (Int × Int × Int) :=
 let s_0 : List UInt8 := x.1
 let i_1 : Int := x.2
 br (i_1 == (s_0.length : Int)) (
  some (0, 0, i_1)) (
  chk (inB i_1 s_0.length) (
   let v1 : Int := ((aU 0 s_0 i_1).toNat : Int)
   br (v1 == 42) (
    let v2 : Int := IntKind.wrap .i64 (i_1 + 1)
    some (0, (-1), v2)) (
    br (v1 == 43) (
     let v3 : Int := IntKind.wrap .i64 (i_1 + 1)
     some (1, (-1), v3)) (
     br (v1 == 63) (
      let v4 : Int := IntKind.wrap .i64 (i_1 + 1)
      some (0, 1, v4)) (
      br (v1 == 123) (
       let v5 : Int := IntKind.wrap .i64 (i_1 + 1)
       ob (xS n (s_0, v5, [125])) fun y6 =>
       some (y6)) (
       some (0, 0, i_1)))))))
def sN (n : Nat) (bJ : (Er4) -> Option ((Er1) × Int)) (x : Er4) : Option ((Er1) × Int) :=
 let s_0 : List UInt8 := x.1
 let i_1 : Int := x.2.1
 let t_2 : List (NdT) × Int × Int × Int × Unit := x.2.2.1
 let Et : Int := x.2.2.2
 chk (inB i_1 s_0.length) (
  let v1 : Int := ((aU 0 s_0 i_1).toNat : Int)
  br (v1 == 94) (
   br (v1 == 36) (
    let v2 : Int := IntKind.wrap .i64 (i_1 + 1)
    ob (fB n (s_0, v2)) fun y3 =>
    br y3 (
     let v4 : Int := IntKind.wrap .i64 (i_1 + 1)
     ob (bE n (t_2, v4, 43)) fun y5 =>
     some (y5, i_1)) (
     ob (eH n (t_2, (3, ([0, 0, 0, 0], (0, (0, (0, (0, (0, ()))))))))) fun y6 =>
     let v7 : Int := IntKind.wrap .i64 (i_1 + 1)
     some (y6, v7))) (
    let v8 : Int := IntKind.wrap .i64 (i_1 + 1)
    ob (fB n (s_0, v8)) fun y9 =>
    br y9 (
     let v10 : Int := IntKind.wrap .i64 (i_1 + 1)
     ob (bE n (t_2, v10, 43)) fun y11 =>
     some (y11, i_1)) (
     ob (eH n (t_2, (2, ([0, 0, 0, 0], (0, (0, (0, (0, (0, ()))))))))) fun y12 =>
     let v13 : Int := IntKind.wrap .i64 (i_1 + 1)
     some (y12, v13)))) (
   br (v1 == 36) (
    br (v1 == 36) (
     let v14 : Int := IntKind.wrap .i64 (i_1 + 1)
     ob (fB n (s_0, v14)) fun y15 =>
     br y15 (
      let v16 : Int := IntKind.wrap .i64 (i_1 + 1)
      ob (bE n (t_2, v16, 43)) fun y17 =>
      some (y17, i_1)) (
      ob (eH n (t_2, (3, ([0, 0, 0, 0], (0, (0, (0, (0, (0, ()))))))))) fun y18 =>
      let v19 : Int := IntKind.wrap .i64 (i_1 + 1)
      some (y18, v19))) (
     let v20 : Int := IntKind.wrap .i64 (i_1 + 1)
     ob (fB n (s_0, v20)) fun y21 =>
     br y21 (
      let v22 : Int := IntKind.wrap .i64 (i_1 + 1)
      ob (bE n (t_2, v22, 43)) fun y23 =>
      some (y23, i_1)) (
      ob (eH n (t_2, (2, ([0, 0, 0, 0], (0, (0, (0, (0, (0, ()))))))))) fun y24 =>
      let v25 : Int := IntKind.wrap .i64 (i_1 + 1)
      some (y24, v25)))) (
    ob (fB n (s_0, i_1)) fun y26 =>
    br y26 (
     ob (bE n (t_2, i_1, 43)) fun y27 =>
     some (y27, i_1)) (
     br (v1 == 46) (
      ob (dH n (0, 255)) fun y28 =>
      ob (lU n (t_2, y28)) fun y29 =>
      let v30 : Int := IntKind.wrap .i64 (i_1 + 1)
      ob (jH n (s_0, v30)) fun y31 =>
      br (decide (y31.2.2 < 0)) (
       ob (bE n (y29, v30, 43)) fun y32 =>
       some (y32, v30)) (
       br (y31.2.2 == v30) (
        some (y29, v30)) (
        let v33 : Int := IntKind.wrap .i64 ((y29.1.length : Int) - 1)
        ob (eH n (y29, (6, ([0, 0, 0, 0], (v33, (0, (y31.1, (y31.2.1, (0, ()))))))))) fun y34 =>
        ob (fB n (s_0, y31.2.2)) fun y35 =>
        br y35 (
         ob (bE n (y34, y31.2.2, 43)) fun y36 =>
         some (y36, y31.2.2)) (
         some (y34, y31.2.2))))) (
      br (v1 == 91) (
       chk ((decide (0 <= i_1) && decide (i_1 <= (s_0.length : Int)))) (
        ob (tK n (s_0.drop i_1.toNat)) fun y37 =>
        br (y37.2.2 != 0) (
         ob (bE n (t_2, i_1, y37.2.2)) fun y38 =>
         some (y38, i_1)) (
         ob (lU n (t_2, y37.1)) fun y39 =>
         let v40 : Int := IntKind.wrap .i64 (i_1 + y37.2.1)
         ob (jH n (s_0, v40)) fun y41 =>
         br (decide (y41.2.2 < 0)) (
          ob (bE n (y39, v40, 43)) fun y42 =>
          some (y42, v40)) (
          br (y41.2.2 == v40) (
           some (y39, v40)) (
           let v43 : Int := IntKind.wrap .i64 ((y39.1.length : Int) - 1)
           ob (eH n (y39, (6, ([0, 0, 0, 0], (v43, (0, (y41.1, (y41.2.1, (0, ()))))))))) fun y44 =>
           ob (fB n (s_0, y41.2.2)) fun y45 =>
           br y45 (
            ob (bE n (y44, y41.2.2, 43)) fun y46 =>
            some (y46, y41.2.2)) (
            some (y44, y41.2.2))))))) (
       br (v1 == 40) (
        br (t_2.2.1 == 9) (
         ob (bE n (t_2, i_1, 41)) fun y47 =>
         some (y47, i_1)) (
         let v48 : Int := IntKind.wrap .i64 (t_2.2.1 + 1)
         let v49 : Int := IntKind.wrap .i64 (i_1 + 1)
         let v50 : Int := IntKind.wrap .i64 (Et + 1)
         ob (bJ (s_0, v49, (t_2.1, (v48, t_2.2.2)), v50)) fun y51 =>
         br (y51.1.2.2.2.1 != 0) (
          some (y51.1, y51.2)) (
          br (y51.2 == (s_0.length : Int)) (
           ob (bE n ((t_2.1, (v48, t_2.2.2)), i_1, 41)) fun y52 =>
           some (y52, i_1)) (
           let v53 : Int := IntKind.wrap .i64 ((y51.1.1.length : Int) - 1)
           ob (eH n (y51.1, (7, ([0, 0, 0, 0], (v53, (0, (0, (0, (v48, ()))))))))) fun y54 =>
           let v55 : Int := IntKind.wrap .i64 (y51.2 + 1)
           ob (jH n (s_0, v55)) fun y56 =>
           br (decide (y56.2.2 < 0)) (
            ob (bE n (y54, v55, 43)) fun y57 =>
            some (y57, v55)) (
            br (y56.2.2 == v55) (
             some (y54, v55)) (
             let v58 : Int := IntKind.wrap .i64 ((y54.1.length : Int) - 1)
             ob (eH n (y54, (6, ([0, 0, 0, 0], (v58, (0, (y56.1, (y56.2.1, (0, ()))))))))) fun y59 =>
             ob (fB n (s_0, y56.2.2)) fun y60 =>
             br y60 (
              ob (bE n (y59, y56.2.2, 43)) fun y61 =>
              some (y61, y56.2.2)) (
              some (y59, y56.2.2)))))))) (
        br (v1 == 92) (
         let v62 : Int := IntKind.wrap .i64 (i_1 + 1)
         br (v62 == (s_0.length : Int)) (
          ob (bE n (t_2, i_1, 40)) fun y63 =>
          some (y63, i_1)) (
          let v64 : Int := IntKind.wrap .i64 (i_1 + 1)
          chk (inB v64 s_0.length) (
           let v65 : Int := ((aU 0 s_0 v64).toNat : Int)
           br (v65 == 110) (
            ob (oF n [10]) fun y66 =>
            ob (lU n (t_2, y66)) fun y67 =>
            let v68 : Int := IntKind.wrap .i64 (i_1 + 2)
            ob (jH n (s_0, v68)) fun y69 =>
            br (decide (y69.2.2 < 0)) (
             ob (bE n (y67, v68, 43)) fun y70 =>
             some (y70, v68)) (
             br (y69.2.2 == v68) (
              some (y67, v68)) (
              let v71 : Int := IntKind.wrap .i64 ((y67.1.length : Int) - 1)
              ob (eH n (y67, (6, ([0, 0, 0, 0], (v71, (0, (y69.1, (y69.2.1, (0, ()))))))))) fun y72 =>
              ob (fB n (s_0, y69.2.2)) fun y73 =>
              br y73 (
               ob (bE n (y72, y69.2.2, 43)) fun y74 =>
               some (y74, y69.2.2)) (
               some (y72, y69.2.2))))) (
            ob (yT n ([46, 91, 92, 40, 41, 42, 43, 63, 123, 125, 124, 94, 36, 47], v65)) fun y75 =>
            br y75 (
             let v76 : Int := IntKind.wrap .i64 (i_1 + 1)
             let v77 : Int := IntKind.wrap .i64 (i_1 + 2)
             chk ((decide (0 <= v77) && decide (v77 <= (s_0.length : Int)) && (decide (0 <= v76) && decide (v76 <= v77)))) (
              let v78 : List UInt8 := (s_0.take v77.toNat).drop v76.toNat
              ob (oF n v78) fun y79 =>
              ob (lU n (t_2, y79)) fun y80 =>
              let v81 : Int := IntKind.wrap .i64 (i_1 + 2)
              ob (jH n (s_0, v81)) fun y82 =>
              br (decide (y82.2.2 < 0)) (
               ob (bE n (y80, v81, 43)) fun y83 =>
               some (y83, v81)) (
               br (y82.2.2 == v81) (
                some (y80, v81)) (
                let v84 : Int := IntKind.wrap .i64 ((y80.1.length : Int) - 1)
                ob (eH n (y80, (6, ([0, 0, 0, 0], (v84, (0, (y82.1, (y82.2.1, (0, ()))))))))) fun y85 =>
                ob (fB n (s_0, y82.2.2)) fun y86 =>
                br y86 (
                 ob (bE n (y85, y82.2.2, 43)) fun y87 =>
                 some (y87, y82.2.2)) (
                 some (y85, y82.2.2)))))) (
             br (decide (v65 ≥ 49)) (
              br (decide (v65 <= 57)) (
               ob (bE n (t_2, i_1, 44)) fun y88 =>
               some (y88, i_1)) (
               ob (bE n (t_2, i_1, 40)) fun y89 =>
               some (y89, i_1))) (
              ob (bE n (t_2, i_1, 40)) fun y90 =>
              some (y90, i_1))))))) (
         let v91 : Int := IntKind.wrap .i64 (i_1 + 1)
         chk ((decide (0 <= v91) && decide (v91 <= (s_0.length : Int)) && (decide (0 <= i_1) && decide (i_1 <= v91)))) (
          let v92 : List UInt8 := (s_0.take v91.toNat).drop i_1.toNat
          ob (oF n v92) fun y93 =>
          ob (lU n (t_2, y93)) fun y94 =>
          let v95 : Int := IntKind.wrap .i64 (i_1 + 1)
          ob (jH n (s_0, v95)) fun y96 =>
          br (decide (y96.2.2 < 0)) (
           ob (bE n (y94, v95, 43)) fun y97 =>
           some (y97, v95)) (
           br (y96.2.2 == v95) (
            some (y94, v95)) (
            let v98 : Int := IntKind.wrap .i64 ((y94.1.length : Int) - 1)
            ob (eH n (y94, (6, ([0, 0, 0, 0], (v98, (0, (y96.1, (y96.2.1, (0, ()))))))))) fun y99 =>
            ob (fB n (s_0, y96.2.2)) fun yNv =>
            br yNv (
             ob (bE n (y99, y96.2.2, 43)) fun y101 =>
             some (y101, y96.2.2)) (
             some (y99, y96.2.2)))))))))))))
def sO (n : Nat) (g0 : List (Int) × Int × Int × List (NdT) × Int × Int × Int × Int × Int × Int × List (NdT) × Unit -> Option (Er1)) (x2 : List (Int) × Int × Int × List (NdT) × Int × Int × Int × Int × Er3) : Option (Er1) :=
 let zPk : List (Int) := x2.1
 let zZm : Int := x2.2.1
 let k_5 : Int := x2.2.2.1
 let l6 : List (NdT) := x2.2.2.2.1
 let zZn : Int := x2.2.2.2.2.1
 let at8 : Int := x2.2.2.2.2.2.1
 let e9 : Int := x2.2.2.2.2.2.2.1
 br (decide (k_5 ≥ 0)) (
  chk (inB k_5 zPk.length) (
   let v14 : Int := aU (Ty.dflt (.int .i64)) zPk k_5
   let v15 : Int := IntKind.wrap .i64 ((l6.length : Int) - 1)
   ob (eH n ((l6, (zZn, (at8, (e9, ())))), (zZm, ([0, 0, 0, 0], (v14, (v15, (0, (0, (0, ()))))))))) fun y16 =>
   let v17 : Int := IntKind.wrap .i64 (k_5 - 1)
   g0 (zPk, zZm, v17, y16.1, y16.2.1, y16.2.2.1, y16.2.2.2.1, x2.2.2.2.2.2.2.2))) (
  some (l6, (zZn, (at8, (e9, ())))))
def jN (n : Nat) (x : (Er1) × List (Int) × Int) : Option (Er1) :=
 let t_0 : List (NdT) × Int × Int × Int × Unit := x.1
 let zZo : List (Int) := x.2.1
 let yJl : Int := x.2.2
 let v1 : Int := IntKind.wrap .i64 ((zZo.length : Int) - 2)
 fix (sO n) n (zZo, yJl, v1, t_0.1, t_0.2.1, t_0.2.2.1, t_0.2.2.2.1, 0, 0, 0, [], ())
def jB (n : Nat) (bJ : (Er4) -> Option ((Er1) × Int)) (g0 : List UInt8 × Int × Int × List (NdT) × Int × Int × Int × Int × Int × Int × List (Int) × List (NdT) × Unit -> Option ((Er1) × Int)) (x5 : Er6) : Option ((Er1) × Int) :=
 let s_6 : List UInt8 := x5.1
 let i_7 : Int := x5.2.1
 let zZp : Int := x5.2.2.1
 let l9 : List (NdT) := x5.2.2.2.1
 let Yb : Int := x5.2.2.2.2.1
 let yJm : Int := x5.2.2.2.2.2.1
 let e12 : Int := x5.2.2.2.2.2.2.1
 let yGg : Int := x5.2.2.2.2.2.2.2.1
 let yNw : Int := x5.2.2.2.2.2.2.2.2.1
 let e15 : Int := x5.2.2.2.2.2.2.2.2.2.1
 let Lc : List (Int) := x5.2.2.2.2.2.2.2.2.2.2.1
 let yLu : List (NdT) := x5.2.2.2.2.2.2.2.2.2.2.2.1
 ob (jG n (s_6, i_7)) fun y18 =>
 br (!y18) (
  ob (sN n bJ (s_6, i_7, (l9, (Yb, (yJm, (e12, ())))), zZp)) fun y19 =>
  br (y19.1.2.2.2.1 != 0) (
   some (y19.1, y19.2)) (
   let v20 : Int := IntKind.wrap .i64 ((y19.1.1.length : Int) - 1)
   chk (Nat.ble ((Lc.length + ([v20] : List (Int)).length) * 8) room) (
    g0 (s_6, y19.2, zZp, y19.1.1, y19.1.2.1, y19.1.2.2.1, y19.1.2.2.2.1, yGg, yNw, e15, Lc ++ [v20], yLu, ())))) (
  ob (jN n ((l9, (Yb, (yJm, (e12, ())))), Lc, 4)) fun y21 =>
  some (y21, i_7))
def Jl (n : Nat) (bJ : (Er4) -> Option ((Er1) × Int)) (g0 : List UInt8 × Int × Int × List (NdT) × Int × Int × Int × Int × Int × Int × List (Int) × List (NdT) × Unit -> Option ((Er1) × Int)) (x24 : Er6) : Option ((Er1) × Int) :=
 let yDc : List UInt8 := x24.1
 let yDd : Int := x24.2.1
 let zTa : Int := x24.2.2.1
 let l28 : List (NdT) := x24.2.2.2.1
 let zTb : Int := x24.2.2.2.2.1
 let yJn : Int := x24.2.2.2.2.2.1
 let e31 : Int := x24.2.2.2.2.2.2.1
 let yGh : Int := x24.2.2.2.2.2.2.2.1
 let yNx : Int := x24.2.2.2.2.2.2.2.2.1
 let e34 : Int := x24.2.2.2.2.2.2.2.2.2.1
 let zWv : List (Int) := x24.2.2.2.2.2.2.2.2.2.2.1
 let yLv : List (NdT) := x24.2.2.2.2.2.2.2.2.2.2.2.1
 ob (jG n (yDc, yDd)) fun y37 =>
 br (!y37) (
  ob (sN n bJ (yDc, yDd, (l28, (zTb, (yJn, (e31, ())))), zTa)) fun y38 =>
  br (y38.1.2.2.2.1 != 0) (
   some (y38.1, y38.2)) (
   let v39 : Int := IntKind.wrap .i64 ((y38.1.1.length : Int) - 1)
   chk (Nat.ble ((zWv.length + ([v39] : List (Int)).length) * 8) room) (
    g0 (yDc, y38.2, zTa, y38.1.1, y38.1.2.1, y38.1.2.2.1, y38.1.2.2.2.1, yGh, yNx, e34, zWv ++ [v39], yLv, ())))) (
  ob (jN n ((l28, (zTb, (yJn, (e31, ())))), zWv, 4)) fun y40 =>
  some (y40, yDd))
def Gg (n : Nat) (bJ : (Er4) -> Option ((Er1) × Int)) (g0 : List UInt8 × Int × Int × List (NdT) × Int × Int × Int × Int × Int × Int × List (Int) × List (NdT) × Unit -> Option ((Er1) × Int)) (x43 : Er6) : Option ((Er1) × Int) :=
 let yDe : List UInt8 := x43.1
 let yDf : Int := x43.2.1
 let zTc : Int := x43.2.2.1
 let l47 : List (NdT) := x43.2.2.2.1
 let zTd : Int := x43.2.2.2.2.1
 let yJo : Int := x43.2.2.2.2.2.1
 let e50 : Int := x43.2.2.2.2.2.2.1
 let yGi : Int := x43.2.2.2.2.2.2.2.1
 let yNy : Int := x43.2.2.2.2.2.2.2.2.1
 let e53 : Int := x43.2.2.2.2.2.2.2.2.2.1
 let zWw : List (Int) := x43.2.2.2.2.2.2.2.2.2.2.1
 let yLw : List (NdT) := x43.2.2.2.2.2.2.2.2.2.2.2.1
 ob (jG n (yDe, yDf)) fun y56 =>
 br (!y56) (
  ob (sN n bJ (yDe, yDf, (l47, (zTd, (yJo, (e50, ())))), zTc)) fun y57 =>
  br (y57.1.2.2.2.1 != 0) (
   some (y57.1, y57.2)) (
   let v58 : Int := IntKind.wrap .i64 ((y57.1.1.length : Int) - 1)
   chk (Nat.ble ((zWw.length + ([v58] : List (Int)).length) * 8) room) (
    g0 (yDe, y57.2, zTc, y57.1.1, y57.1.2.1, y57.1.2.2.1, y57.1.2.2.2.1, yGi, yNy, e53, zWw ++ [v58], yLw, ())))) (
  ob (jN n ((l47, (zTd, (yJo, (e50, ())))), zWw, 4)) fun y59 =>
  some (y59, yDf))
def vJ (n : Nat) (bJ : (Er4) -> Option ((Er1) × Int)) (x : Er4) : Option ((Er1) × Int) :=
 let s_0 : List UInt8 := x.1
 let i_1 : Int := x.2.1
 let t_2 : List (NdT) × Int × Int × Int × Unit := x.2.2.1
 let Et : Int := x.2.2.2
 br (decide (i_1 < (s_0.length : Int))) (
  chk (inB i_1 s_0.length) (
   let v1 : Int := ((aU 0 s_0 i_1).toNat : Int)
   br (v1 == 41) (
    br (Et == 0) (
     ob (bE n (t_2, i_1, 41)) fun y2 =>
     some (y2, i_1)) (
     ob (jG n (s_0, i_1)) fun y3 =>
     br y3 (
      ob (bE n (t_2, i_1, 40)) fun y4 =>
      some (y4, i_1)) (
      fix (jB n bJ) n (s_0, i_1, Et, t_2.1, t_2.2.1, t_2.2.2.1, t_2.2.2.2.1, 0, 0, 0, [], [], ())))) (
    ob (jG n (s_0, i_1)) fun y22 =>
    br y22 (
     ob (bE n (t_2, i_1, 40)) fun y23 =>
     some (y23, i_1)) (
     fix (Jl n bJ) n (s_0, i_1, Et, t_2.1, t_2.2.1, t_2.2.2.1, t_2.2.2.2.1, 0, 0, 0, [], [], ()))))) (
  ob (jG n (s_0, i_1)) fun y41 =>
  br y41 (
   ob (bE n (t_2, i_1, 40)) fun y42 =>
   some (y42, i_1)) (
   fix (Gg n bJ) n (s_0, i_1, Et, t_2.1, t_2.2.1, t_2.2.2.1, t_2.2.2.2.1, 0, 0, 0, [], [], ())))
def yU (n : Nat) (bJ : (Er4) -> Option ((Er1) × Int)) (g0 : List UInt8 × Int × Int × List (NdT) × Int × Int × Int × Int × Int × Int × List (Int) × List (NdT) × Unit -> Option ((Er1) × Int)) (x1 : Er6) : Option ((Er1) × Int) :=
 let s_2 : List UInt8 := x1.1
 let i_3 : Int := x1.2.1
 let zZq : Int := x1.2.2.1
 let l5 : List (NdT) := x1.2.2.2.1
 let yJp : Int := x1.2.2.2.2.1
 let at7 : Int := x1.2.2.2.2.2.1
 let e8 : Int := x1.2.2.2.2.2.2.1
 let yJq : Int := x1.2.2.2.2.2.2.2.1
 let zHl : Int := x1.2.2.2.2.2.2.2.2.1
 let e11 : Int := x1.2.2.2.2.2.2.2.2.2.1
 let zLv : List (Int) := x1.2.2.2.2.2.2.2.2.2.2.1
 let Lb : List (NdT) := x1.2.2.2.2.2.2.2.2.2.2.2.1
 ob (vJ n bJ (s_2, i_3, (l5, (yJp, (at7, (e8, ())))), zZq)) fun y14 =>
 br (y14.1.2.2.2.1 != 0) (
  some (y14.1, y14.2)) (
  let v15 : Int := IntKind.wrap .i64 ((y14.1.1.length : Int) - 1)
  chk (Nat.ble ((zLv.length + ([v15] : List (Int)).length) * 8) room) (
   br (y14.2 == (s_2.length : Int)) (
    ob (jN n (y14.1, zLv ++ [v15], 5)) fun y16 =>
    some (y16, y14.2)) (
    chk (inB y14.2 s_2.length) (
     let v17 : Int := ((aU 0 s_2 y14.2).toNat : Int)
     br (v17 != 124) (
      ob (jN n (y14.1, zLv ++ [v15], 5)) fun y18 =>
      some (y18, y14.2)) (
      let v19 : Int := IntKind.wrap .i64 (y14.2 + 1)
      g0 (s_2, v19, zZq, y14.1.1, y14.1.2.1, y14.1.2.2.1, y14.1.2.2.2.1, yJq, zHl, e11, zLv ++ [v15], Lb, ()))))))
def uR (n : Nat) (bJ : (Er4) -> Option ((Er1) × Int)) (x : Er4) : Option ((Er1) × Int) :=
 let s_0 : List UInt8 := x.1
 let i_1 : Int := x.2.1
 let t_2 : List (NdT) × Int × Int × Int × Unit := x.2.2.1
 let Et : Int := x.2.2.2
 fix (yU n bJ) n (s_0, i_1, Et, t_2.1, t_2.2.1, t_2.2.2.1, t_2.2.2.2.1, 0, 0, 0, [], [], ())
def qJ (n : Nat) : (Er4) -> Option ((Er1) × Int) :=
 zNx (fun n r x => uR n r x) n
def xV (n : Nat) (x : List UInt8) : Option (List (NdT) × Int × Int) :=
 let s_0 : List UInt8 := x
 br (s_0 == []) (
  some ([(0, ([0, 0, 0, 0], (0, (0, (0, (0, (0, ())))))))], 0, 0)) (
  ob (qJ n (s_0, 0, ([], (0, (0, (0, ())))), 0)) fun y1 =>
  br (y1.1.2.2.2.1 != 0) (
   some ([], y1.1.2.2.1, y1.1.2.2.2.1)) (
   br (decide (y1.2 < (s_0.length : Int))) (
    some ([], y1.2, 41)) (
    br (decide ((y1.1.1.length : Int) > 120)) (
     some ([], 0, 2)) (
     some (y1.1.1, 0, 0)))))
def zFb (n : Nat) (g0 : List (NdT) × Int × List (NdT) × Unit -> Option (List (NdT))) (x1 : List (NdT) × Int × List (NdT) × Unit) : Option (List (NdT)) :=
 let l_2 : List (NdT) := x1.1
 let i_3 : Int := x1.2.1
 let Fp : List (NdT) := x1.2.2.1
 br (decide (i_3 < (l_2.length : Int))) (
  chk (inB i_3 l_2.length) (
   let v5 : Int × List (Int) × Int × Int × Int × Int × Int × Unit := aU (Ty.dflt aC) l_2 i_3
   chk (Nat.ble ((Fp.length + ([v5] : List (NdT)).length) * 80) room) (
    let v6 : Int := IntKind.wrap .i64 (i_3 + 1)
    g0 (l_2, v6, Fp ++ [v5], ())))) (
  some Fp)
def Eu (n : Nat) (x : List (NdT)) : Option (List (NdT)) :=
 let l_0 : List (NdT) := x
 fix (zFb n) n (l_0, 0, [], ())
def Aw (n : Nat) (x : List UInt8) : Option (Bool) :=
 let s_0 : List UInt8 := x
 br (decide ((s_0.length : Int) > 300)) (
  ob (tX n ()) fun y1 =>
  some y1) (
  ob (tX n ()) fun y2 =>
  br (!y2) (
   ob (tX n ()) fun y3 =>
   some y3) (
   ob (nO n s_0) fun y4 =>
   ob (xV n s_0) fun y5 =>
   ob (Eu n y4.1) fun y6 =>
   ob (Ao n (y6, y5.1)) fun y7 =>
   br y7 (
    br (y4.2.1 == y5.2.1) (
     br (y4.2.2 == y5.2.2) (
      ob (tJ n y4.1) fun y8 =>
      some ((y4.2.2 == 0) == y8)) (
      some false)) (
     some false)) (
    some false)))
end Go.Dec
