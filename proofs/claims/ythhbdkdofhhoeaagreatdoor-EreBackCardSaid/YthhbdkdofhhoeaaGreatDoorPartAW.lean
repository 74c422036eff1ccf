/- Part of a proof over this seat: a library of my own, and what it says of this seat. No statement is proved here. -/
import Derived.Test.YthhbdkdofhhoeaaGreatDoorPartAL
import Derived.Test.YthhbdkdofhhoeaaGreatDoorPartAQ
namespace Go.Dec
set_option linter.unusedVariables false
abbrev aG:Ty:=.pair (.int .i64) (.pair (.arr 4 (.int .u64)) (.pair (.int .i64) (.pair (.int .i64) (.pair (.int .i64) (.pair (.int .i64) (.pair (.int .i64) .unit))))))
abbrev yBd:Ty:=.pair .str (.pair (.int .i64) .unit)
abbrev zBe:Ty:=.pair (.int .i64) (.pair (.int .i64) .unit)
abbrev wY:Ty:=.pair .str (.pair (.int .i64) (.pair (.slice aG) (.pair (.int .i64) (.pair (.arr 10 .bool) .unit))))
abbrev wZ:Ty:=.pair (.slice aG) (.pair (.int .i64) (.pair (.arr 10 .bool) zBe))
abbrev Rw:Ty:=.pair (.int .i64) (.pair (.int .i64) (.pair (.slice (.int .i64)) (.pair (.slice (.int .i64)) .unit)))
abbrev Am:Ty:=.pair .str (.pair (.int .i64) (.pair (.slice aG) (.pair (.int .i64) (.pair (.slice Rw) zBe))))
abbrev Rx:Ty:=.pair (.slice aG) (.pair (.int .i64) zBe)
abbrev zBf:Ty:=.pair .bool (.pair (.int .i64) (.pair (.arr 10 .bool) (.pair .bool .unit)))
abbrev NdT:Type:=Int × List (Int) × Int × Int × Int × Int × Int × Unit
def iH (n:Nat) (x:List UInt8×List UInt8):Option (Bool) :=let s_0:=x.1
 let Yl:=x.2
 br (decide ((s_0.length:Int)≥(Yl.length:Int))) (chk ((decide (0<=(Yl.length:Int))&&decide ((Yl.length:Int)<=(s_0.length:Int)))) (let v1:List UInt8:=s_0.take (Yl.length:Int).toNat
 some (v1==Yl))) (some false)
def strings_HasPrefix (n:Nat) (x:List UInt8×List UInt8):Option (Bool) :=let s_0:=x.1
 let Yl:=x.2
 ob (iH n (s_0,Yl)) fun y1 =>some y1
def zGz (n:Nat) (g0:Int×List (Int)×List (Int)×Unit->Option (List (Int))) (x1:Int×List (Int)×List (Int)×Unit):Option (List (Int)) :=let Ry:=x1.1
 let b3:=x1.2.1
 let b4:=x1.2.2.1
 br (decide (Ry < 4)) (chk (inB Ry 4) (chk (decide (Ry.toNat < 4)) (let v5:Int:=b3.getD (Ry.toNat) (Ty.dflt (.int .u64))
 let v6:Int:=eB .u64 .xor 18446744073709551615 v5
 chk (inB Ry 4) (chk (decide (Ry.toNat < 4)) (let v7:Int:=IntKind.wrap .i64 (Ry+1)
 g0 (v7,b3.set (Ry.toNat) v6,b4,())))))) (some b3)
def Gm (n:Nat) (x:List (Int)):Option (List (Int)) :=let s_0:=x
 fix (zGz n) n (0,s_0,[0,0,0,0],())
def fA (n:Nat) (x:List UInt8×List UInt8×Int×Unit):Option (Bool×List UInt8×Int×Unit) :=let t_1:=x.1
 let s2:=x.2.1
 let at3:=x.2.2.1
 chk ((decide (0<=at3)&&decide (at3<=(s2.length:Int)))) (ob (strings_HasPrefix n (s2.drop at3.toNat,t_1)) fun y4 =>some (y4,s2,at3,()))
def dZ (n:Nat) (x:List UInt8×List UInt8×Int×Unit):Option (Bool×List UInt8×Int×Unit) :=let t_1:=x.1
 let s2:=x.2.1
 let at3:=x.2.2.1
 ob (fA n (t_1,s2,at3,())) fun y4 =>br (!y4.1) (some (false,y4.2.1,y4.2.2.1,())) (let v5:Int:=IntKind.wrap .i64 (y4.2.2.1+(t_1.length:Int))
 some (true,y4.2.1,v5,()))
def bL (_n:Nat) (x:List UInt8×Int×Unit):Option (Sum (List UInt8×Int×Unit) (Int×Int×List UInt8×Int×Unit)):=some (.inr (42,0,x))
def pY (n:Nat) (g0:Int×Int×List (Int)×Unit->Option (List (Int))) (x1:Int×Int×List (Int)×Unit):Option (List (Int)) :=let b_2:=x1.1
 let i_3:=x1.2.1
 let b4:=x1.2.2.1
 br (decide (i_3<=(IntKind.wrap .i64 b_2))) (chk (decide (0<=6)) (chk (inB (nN .i64 i_3 6) 4) (chk (decide ((nN .i64 i_3 6).toNat < 4)) (let v5:Int:=b4.getD ((nN .i64 i_3 6).toNat) (Ty.dflt (.int .u64))
 chk (decide (0<=eB .i64 .and i_3 63)) (let v6:Int:=Qm .u64 1 (eB .i64 .and i_3 63)
 chk (inB (nN .i64 i_3 6) 4) (chk (decide ((nN .i64 i_3 6).toNat < 4)) (let v7:Int:=IntKind.wrap .i64 (i_3+1)
 g0 (b_2,v7,b4.set ((nN .i64 i_3 6).toNat) (eB .u64 .or v5 v6),())))))))) (some b4)
def dL (n:Nat) (x:Int×Int):Option (List (Int)) :=let a_0:=x.1
 let b_1:=x.2
 fix (pY n) n (b_1,IntKind.wrap .i64 a_0,[0,0,0,0],())
def Rz (n:Nat) (g0:List (List (Int))×Int×Int×List (Int)×Unit->Option (List (Int))) (g1:List (List (Int))×Int×Int×Int×List (Int)×List (Int)×Unit->Option (List (Int))) (x7:List (List (Int))×Int×Int×Int×List (Int)×List (Int)×Unit):Option (List (Int)) :=let yFd:=x7.1
 let yFe:=x7.2.1
 let yBe:=x7.2.2.1
 let uS:=x7.2.2.2.1
 let b12:=x7.2.2.2.2.1
 let b13:=x7.2.2.2.2.2.1
 br (decide (uS < 4)) (chk (inB uS 4) (chk (decide (uS.toNat < 4)) (let v14:Int:=b12.getD (uS.toNat) (Ty.dflt (.int .u64))
 chk (inB uS 4) (chk (decide (uS.toNat < 4)) (let v15:Int:=b13.getD (uS.toNat) (Ty.dflt (.int .u64))
 chk (inB uS 4) (chk (decide (uS.toNat < 4)) (let v16:Int:=IntKind.wrap .i64 (uS+1)
 g1 (yFd,yFe,yBe,v16,b12.set (uS.toNat) (eB .u64 .or v14 v15),b13,())))))))) (let v17:Int:=IntKind.wrap .i64 (yBe+1)
 g0 (yFd,yFe,v17,b12,()))
def zN (n:Nat) (g0:List (List (Int))×Int×Int×List (Int)×Unit->Option (List (Int))) (x1:List (List (Int))×Int×Int×List (Int)×Unit):Option (List (Int)) :=let zZb:=x1.1
 let yFf:=x1.2.1
 let zSo:=x1.2.2.1
 let b5:=x1.2.2.2.1
 br (decide (zSo<yFf)) (chk (inB zSo zZb.length) (let v6:List (Int):=bJ (Ty.dflt (.arr 4 (.int .u64))) zZb zSo
 fix (Rz n g0) n (zZb,yFf,zSo,0,b5,v6,()))) (some b5)
def oL (n:Nat) (x:List (List (Int))):Option (List (Int)) :=let l_0:=x
 fix (zN n) n (l_0,(l_0.length:Int),0,[0,0,0,0],())
def zO (n:Nat) (g0:List UInt8×Int×Int×List (Int)×Unit->Option (List (Int))) (x1:List UInt8×Int×Int×List (Int)×Unit):Option (List (Int)) :=let s_2:=x1.1
 let yFg:=x1.2.1
 let zDo:=x1.2.2.1
 let b5:=x1.2.2.2.1
 br (decide (zDo<yFg)) (chk (inB zDo s_2.length) (let v6:Int:=((bJ 0 s_2 zDo).toNat:Int)
 chk (decide (0<=6)) (chk (inB (nN .u8 v6 6) 4) (chk (decide ((nN .u8 v6 6).toNat < 4)) (let v7:Int:=b5.getD ((nN .u8 v6 6).toNat) (Ty.dflt (.int .u64))
 chk (inB zDo s_2.length) (let v8:Int:=((bJ 0 s_2 zDo).toNat:Int)
 chk (decide (0<=eB .u8 .and v8 63)) (let v9:Int:=Qm .u64 1 (eB .u8 .and v8 63)
 chk (inB (nN .u8 v6 6) 4) (chk (decide ((nN .u8 v6 6).toNat < 4)) (let v10:Int:=IntKind.wrap .i64 (zDo+1)
 g0 (s_2,yFg,v10,b5.set ((nN .u8 v6 6).toNat) (eB .u64 .or v7 v9),())))))))))) (some b5)
def sS (n:Nat) (x:List UInt8):Option (List (Int)) :=let s_0:=x
 fix (zO n) n (s_0,(s_0.length:Int),0,[0,0,0,0],())
def Dr (n:Nat) (x:List UInt8):Option (List (Int)×Bool) :=let gX:=x
 ob (dL n (65,90)) fun y1 =>ob (dL n (97,122)) fun y2 =>ob (dL n (48,57)) fun y3 =>br (gX==[117,112,112,101,114]) (some (y1,true)) (br (gX==[108,111,119,101,114]) (some (y2,true)) (br (gX==[97,108,112,104,97]) (ob (oL n [y1,y2]) fun y4 =>some (y4,true)) (br (gX==[100,105,103,105,116]) (some (y3,true)) (br (gX==[97,108,110,117,109]) (ob (oL n [y1,y2,y3]) fun y5 =>some (y5,true)) (br (gX==[120,100,105,103,105,116]) (ob (dL n (65,70)) fun y6 =>ob (dL n (97,102)) fun y7 =>ob (oL n [y3,y6,y7]) fun y8 =>some (y8,true)) (br (gX==[98,108,97,110,107]) (ob (sS n [32,9]) fun y9 =>some (y9,true)) (br (gX==[115,112,97,99,101]) (ob (sS n [32,9,10,11,12,13]) fun y10 =>some (y10,true)) (br (gX==[99,110,116,114,108]) (ob (dL n (0,31)) fun y11 =>ob (sS n [127]) fun y12 =>ob (oL n [y11,y12]) fun y13 =>some (y13,true)) (br (gX==[103,114,97,112,104]) (ob (dL n (33,126)) fun y14 =>some (y14,true)) (br (gX==[112,114,105,110,116]) (ob (dL n (32,126)) fun y15 =>some (y15,true)) (br (gX==[112,117,110,99,116]) (ob (dL n (33,47)) fun y16 =>ob (dL n (58,64)) fun y17 =>ob (dL n (91,96)) fun y18 =>ob (dL n (123,126)) fun y19 =>ob (oL n [y16,y17,y18,y19]) fun y20 =>some (y20,true)) (some ([0,0,0,0],false)))))))))))))
def qP (n:Nat) (x21:List UInt8×List UInt8×Int×Unit):Option (Sum (Int×Bool×List UInt8×Int×Unit) (Int×Int×List UInt8×Int×Unit)) :=let yCm:=x21.1
 let s23:=x21.2.1
 let zZc:=x21.2.2.1
 chk (inB zZc s23.length) (let v25:Int:=((bJ 0 s23 zZc).toNat:Int)
 let v26:Int:=IntKind.wrap .i64 (zZc+3)
 some (.inl (v25,(yCm==[46]),s23,v26,())))
def jJ (n:Nat) (x41:List UInt8×Int×Unit):Option (Sum (Int×Bool×List UInt8×Int×Unit) (Int×Int×List UInt8×Int×Unit)) :=let s42:=x41.1
 let yIw:=x41.2.1
 let v44:Int:=IntKind.wrap .i64 (yIw+1)
 let v45:Int:=IntKind.wrap .i64 (v44 - 1)
 chk (inB v45 s42.length) (let v46:Int:=((bJ 0 s42 v45).toNat:Int)
 some (.inl (v46,true,s42,v44,())))
def iD (n:Nat) (x30:Bool×Bool×List UInt8×Int×Unit):Option (Sum (Int×Bool×List UInt8×Int×Unit) (Int×Int×List UInt8×Int×Unit)) :=let zZd:=x30.1
 let zPe:=x30.2.1
 let s33:=x30.2.2.1
 let zZe:=x30.2.2.2.1
 br (zZe==(s33.length:Int)) (ob2 (bL n (s33,zZe,())) (fun y35 =>none) (fun y35 =>some (.inr (y35.1,y35.2.1,y35.2.2.1,y35.2.2.2.1,())))) (ob (fA n ([91,58],s33,zZe,())) fun y36 =>br y36.1 (ob2 (bL n (y36.2.1,y36.2.2.1,())) (fun y37 =>none) (fun y37 =>some (.inr (y37.1,y37.2.1,y37.2.2.1,y37.2.2.2.1,())))) (ob (fA n ([93],y36.2.1,y36.2.2.1,())) fun y38 =>br y38.1 (br (!zZd) (ob2 (bL n (y38.2.1,y38.2.2.1,())) (fun y39 =>none) (fun y39 =>some (.inr (y39.1,y39.2.1,y39.2.2.1,y39.2.2.2.1,())))) (br zPe (ob2 (bL n (y38.2.1,y38.2.2.1,())) (fun y40 =>none) (fun y40 =>some (.inr (y40.1,y40.2.1,y40.2.2.1,y40.2.2.2.1,())))) (jn (jJ n) (y38.2.1,y38.2.2.1,())))) (br zPe (ob2 (bL n (y38.2.1,y38.2.2.1,())) (fun y47 =>none) (fun y47 =>some (.inr (y47.1,y47.2.1,y47.2.2.1,y47.2.2.2.1,())))) (jn (jJ n) (y38.2.1,y38.2.2.1,())))))
def lW (n:Nat) (g0:Bool×Bool×Int×Int×List UInt8×Int×List (List UInt8)×Unit->Option (Sum (Int×Bool×List UInt8×Int×Unit) (Int×Int×List UInt8×Int×Unit))) (x6:Bool×Bool×Int×Int×List UInt8×Int×List (List UInt8)×Unit):Option (Sum (Int×Bool×List UInt8×Int×Unit) (Int×Int×List UInt8×Int×Unit)) :=let Gn:=x6.1
 let zVg:=x6.2.1
 let yBf:=x6.2.2.1
 let Sb:=x6.2.2.2.1
 let s11:=x6.2.2.2.2.1
 let zKm:=x6.2.2.2.2.2.1
 let Vg:=x6.2.2.2.2.2.2.1
 br (decide (Sb<yBf)) (chk ((inB Sb (Vg.length)&&decide (0+(Vg.length)<=Vg.length))) (chk (decide (0+Sb.toNat<Vg.length)) (let v14:List UInt8:=Vg.getD (0+Sb.toNat) (Ty.dflt .str)
 chk (decide ([91].length+v14.length<=aH)) (ob (dZ n ([91]++v14,s11,zKm,())) fun y15 =>br (!y15.1) (let v16:Int:=IntKind.wrap .i64 (Sb+1)
 g0 (Gn,zVg,yBf,v16,y15.2.1,y15.2.2.1,Vg,())) (br ((y15.2.1.length:Int)==y15.2.2.1) (ob2 (bL n (y15.2.1,y15.2.2.1,())) (fun y17 =>none) (fun y17 =>some (.inr (y17.1,y17.2.1,y17.2.2.1,y17.2.2.2.1,())))) (let v18:Int:=IntKind.wrap .i64 (y15.2.2.1+1)
 chk ((decide (0<=v18)&&decide (v18<=(y15.2.1.length:Int)))) (chk (decide (v14.length+([93]:List UInt8).length<=aH)) (ob (strings_HasPrefix n (y15.2.1.drop v18.toNat,v14++[93])) fun y19 =>br (!y19) (ob2 (bL n (y15.2.1,y15.2.2.1,())) (fun y20 =>none) (fun y20 =>some (.inr (y20.1,y20.2.1,y20.2.2.1,y20.2.2.2.1,())))) (jn (qP n) (v14,y15.2.1,y15.2.2.1,())))))))))) (ob (dZ n ([92,110],s11,zKm,())) fun y27 =>br y27.1 (some (.inl (10,true,y27.2.1,y27.2.2.1,()))) (ob (fA n ([45],y27.2.1,y27.2.2.1,())) fun y28 =>br y28.1 (br (!Gn) (br (!zVg) (ob (fA n ([45,93],y28.2.1,y28.2.2.1,())) fun y29 =>jn (iD n) (Gn,(!y29.1),y29.2.1,y29.2.2.1,())) (jn (iD n) (Gn,false,y28.2.1,y28.2.2.1,()))) (jn (iD n) (Gn,false,y28.2.1,y28.2.2.1,()))) (jn (iD n) (Gn,false,y28.2.1,y28.2.2.1,()))))
def lM (n:Nat) (x:Bool×Bool×List UInt8×Int×Unit):Option (Sum (Int×Bool×List UInt8×Int×Unit) (Int×Int×List UInt8×Int×Unit)) :=let zDp:=x.1
 let yFh:=x.2.1
 let s3:=x.2.2.1
 let at4:=x.2.2.2.1
 let v5:Int:=(([[46],[61]].length:Nat):Int)
 fix (lW n) n (zDp,yFh,v5,0,s3,at4,[[46],[61]],())
def mZ (n:Nat) (x:Bool×List UInt8×Int×Unit):Option (Sum (List (Int)×List UInt8×Int×Unit) (Int×Int×List UInt8×Int×Unit)) :=let zDp:=x.1
 let s2:=x.2.1
 let at3:=x.2.2.1
 ob (dZ n ([91,58],s2,at3,())) fun y4 =>br y4.1 (chk ((decide (0<=y4.2.2.1)&&decide (y4.2.2.1<=(y4.2.1.length:Int)))) (let v5:List UInt8:=y4.2.1.drop y4.2.2.1.toNat
 ob (strings_Cut n (v5,[58,93])) fun y6 =>let v7:Int:=IntKind.wrap .i64 (y4.2.2.1+(y6.1.length:Int))
 ob (Dr n y6.1) fun y8 =>br (!y8.2) (ob2 (bL n (y4.2.1,v7,())) (fun y9 =>none) (fun y9 =>some (.inr (y9.1,y9.2.1,y9.2.2.1,y9.2.2.2.1,())))) (ob (dZ n ([58,93],y4.2.1,v7,())) fun y10 =>br (!y10.1) (ob2 (bL n (y10.2.1,y10.2.2.1,())) (fun y11 =>none) (fun y11 =>some (.inr (y11.1,y11.2.1,y11.2.2.1,y11.2.2.2.1,())))) (some (.inl (y8.1,y10.2.1,y10.2.2.1,())))))) (ob2 (lM n (zDp,false,y4.2.1,y4.2.2.1,())) (fun y12 =>ob (fA n ([45],y12.2.2.1,y12.2.2.2.1,())) fun y13 =>br (!y13.1) (ob (dL n (y12.1,y12.1)) fun y14 =>some (.inl (y14,y13.2.1,y13.2.2.1,()))) (ob (fA n ([45,93],y13.2.1,y13.2.2.1,())) fun y15 =>br y15.1 (ob (dL n (y12.1,y12.1)) fun y16 =>some (.inl (y16,y15.2.1,y15.2.2.1,()))) (let v17:Int:=IntKind.wrap .i64 (y15.2.2.1+1)
 br (v17==(y15.2.1.length:Int)) (ob (dL n (y12.1,y12.1)) fun y18 =>some (.inl (y18,y15.2.1,y15.2.2.1,()))) (let v19:Int:=IntKind.wrap .i64 (y15.2.2.1+1)
 ob2 (lM n (false,true,y15.2.1,v19,())) (fun y20 =>br (!y12.2.1) (ob2 (bL n (y20.2.2.1,y20.2.2.2.1,())) (fun y21 =>none) (fun y21 =>some (.inr (y21.1,y21.2.1,y21.2.2.1,y21.2.2.2.1,())))) (br (!y20.2.1) (ob2 (bL n (y20.2.2.1,y20.2.2.2.1,())) (fun y22 =>none) (fun y22 =>some (.inr (y22.1,y22.2.1,y22.2.2.1,y22.2.2.2.1,())))) (br (decide (y20.1<y12.1)) (ob2 (bL n (y20.2.2.1,y20.2.2.2.1,())) (fun y23 =>none) (fun y23 =>some (.inr (y23.1,y23.2.1,y23.2.2.1,y23.2.2.2.1,())))) (ob (dL n (y12.1,y20.1)) fun y24 =>some (.inl (y24,y20.2.2.1,y20.2.2.2.1,())))))) (fun y20 =>some (.inr (y20.1,y20.2.1,y20.2.2.1,y20.2.2.2.1,()))))))) (fun y12 =>some (.inr (y12.1,y12.2.1,y12.2.2.1,y12.2.2.2.1,()))))
def lD (n:Nat) (g0:Bool×Bool×List (Int)×List UInt8×Int×Unit->Option (Sum (List (Int)×List UInt8×Int×Unit) (Int×Int×List (Int)×List UInt8×Int×Unit))) (x7:Bool×Bool×List (Int)×List UInt8×Int×Unit):Option (Sum (List (Int)×List UInt8×Int×Unit) (Int×Int×List (Int)×List UInt8×Int×Unit)) :=let zSp:=x7.1
 let zDq:=x7.2.1
 let b10:=x7.2.2.1
 let s11:=x7.2.2.2.1
 let zKm:=x7.2.2.2.2.1
 br zDq (ob2 (mZ n (zDq,s11,zKm,())) (fun y13 =>ob (oL n [b10,y13.1]) fun y14 =>g0 (zSp,false,y14,y13.2.1,y13.2.2.1,())) (fun y13 =>some (.inr (y13.1,y13.2.1,b10,y13.2.2.1,y13.2.2.2.1,())))) (ob (dZ n ([93],s11,zKm,())) fun y15 =>br (!y15.1) (ob2 (mZ n (zDq,y15.2.1,y15.2.2.1,())) (fun y16 =>ob (oL n [b10,y16.1]) fun y17 =>g0 (zSp,false,y17,y16.2.1,y16.2.2.1,())) (fun y16 =>some (.inr (y16.1,y16.2.1,b10,y16.2.2.1,y16.2.2.2.1,())))) (br zSp (ob (Gm n b10) fun y18 =>br (Ty.beq (.arr 4 (.int .u64)) y18 ([0,0,0,0])) (ob2 (bL n (y15.2.1,y15.2.2.1,())) (fun y19 =>none) (fun y19 =>some (.inr (y19.1,y19.2.1,y18,y19.2.2.1,y19.2.2.2.1,())))) (some (.inl (y18,y15.2.1,y15.2.2.1,())))) (br (Ty.beq (.arr 4 (.int .u64)) b10 ([0,0,0,0])) (ob2 (bL n (y15.2.1,y15.2.2.1,())) (fun y20 =>none) (fun y20 =>some (.inr (y20.1,y20.2.1,b10,y20.2.2.1,y20.2.2.2.1,())))) (some (.inl (b10,y15.2.1,y15.2.2.1,()))))))
def kR (n:Nat) (x:List (Int)×List UInt8×Int×Unit):Option (Sum (List (Int)×List UInt8×Int×Unit) (Int×Int×List (Int)×List UInt8×Int×Unit)) :=let b1:=x.1
 let s2:=x.2.1
 let at3:=x.2.2.1
 ob (dZ n ([91],s2,at3,())) fun y4 =>br (!y4.1) (ob2 (bL n (y4.2.1,y4.2.2.1,())) (fun y5 =>none) (fun y5 =>some (.inr (y5.1,y5.2.1,b1,y5.2.2.1,y5.2.2.2.1,())))) (ob (dZ n ([94],y4.2.1,y4.2.2.1,())) fun y6 =>fix (lD n) n (y6.1,true,b1,y6.2.1,y6.2.2.1,()))
def fQ (n:Nat) (x:List (Int)×List UInt8×Int×Unit):Option (Int×Int×List (Int)×List UInt8×Int×Unit):=ob2 (kR n x) (fun y=>some (0,0,y)) (fun y=>some y)
def qQ (n:Nat) (x:List UInt8):Option (List (Int)×Int×Int) :=let s_0:=x
 ob (fQ n ([0,0,0,0],s_0,0,())) fun y1 =>br (y1.1 != 0) (some ([0,0,0,0],0,y1.1)) (some (y1.2.2.1,y1.2.2.2.2.1,0))
def iR (n:Nat) (x:Int×List (Int)×Int×Int×Int×Int×Int×Unit):Option (Int) :=let n_0:=x
 br (n_0.1==4) (br (n_0.1==4) (some 2) (br (n_0.1==6) (br (n_0.1==6) (some 1) (some 0)) (br (n_0.1==7) (some 1) (some 0)))) (br (n_0.1==5) (some 2) (br (n_0.1==6) (br (n_0.1==6) (some 1) (some 0)) (br (n_0.1==7) (some 1) (some 0))))
def bW (n:Nat) (x:Int×List (Int)×Int×Int×Int×Int×Int×Unit):Option (NdT) :=let n_0:=x
 br (n_0.1==1) (some (n_0.1,(n_0.2.1,(0,(0,(0,(0,(0,())))))))) (br (n_0.1==4) (br (n_0.1==4) (some (n_0.1,([0,0,0,0],(n_0.2.2.1,(n_0.2.2.2.1,(0,(0,(0,())))))))) (br (n_0.1==6) (some (n_0.1,([0,0,0,0],(n_0.2.2.1,(0,(n_0.2.2.2.2.1,(n_0.2.2.2.2.2.1,(0,())))))))) (br (n_0.1==7) (some (n_0.1,([0,0,0,0],(n_0.2.2.1,(0,(0,(0,n_0.2.2.2.2.2.2))))))) (br (n_0.1==8) (some (n_0.1,([0,0,0,0],(0,(0,(0,(0,n_0.2.2.2.2.2.2))))))) (some (n_0.1,([0,0,0,0],(0,(0,(0,(0,(0,())))))))))))) (br (n_0.1==5) (some (n_0.1,([0,0,0,0],(n_0.2.2.1,(n_0.2.2.2.1,(0,(0,(0,())))))))) (br (n_0.1==6) (some (n_0.1,([0,0,0,0],(n_0.2.2.1,(0,(n_0.2.2.2.2.1,(n_0.2.2.2.2.2.1,(0,())))))))) (br (n_0.1==7) (some (n_0.1,([0,0,0,0],(n_0.2.2.1,(0,(0,(0,n_0.2.2.2.2.2.2))))))) (br (n_0.1==8) (some (n_0.1,([0,0,0,0],(0,(0,(0,(0,n_0.2.2.2.2.2.2))))))) (some (n_0.1,([0,0,0,0],(0,(0,(0,(0,(0,())))))))))))))
def qR (n : Nat) (x : Int × List (Int) × Int × Int × Int × Int × Int × Unit) : Option (Bool) :=
 let n_0 : Int × List (Int) × Int × Int × Int × Int × Int × Unit := x
 br (decide (n_0.1 < 0)) (
  some false) (
  br (decide (n_0.1 > 8)) (
   some false) (
   ob (bW n n_0) fun y1 =>
   br (!(Ty.beq aG n_0 y1)) (
    some false) (
    br (n_0.1 == 1) (
     some (!(Ty.beq (.arr 4 (.int .u64)) n_0.2.1 ([0, 0, 0, 0])))) (
     br (n_0.1 == 6) (
      br (decide (n_0.2.2.2.2.1 ≥ 0)) (
       br (decide (n_0.2.2.2.2.1 <= 255)) (
        br (n_0.2.2.2.2.2.1 == (-1)) (
         some true) (
         let v2 : Int := if 1 > n_0.2.2.2.2.1 then 1 else n_0.2.2.2.2.1
         br (decide (n_0.2.2.2.2.2.1 ≥ v2)) (
          some (decide (n_0.2.2.2.2.2.1 <= 255))) (
          some false))) (
        some false)) (
       some false)) (
      br (n_0.1 == 7) (
       br (n_0.1 == 7) (
        br (decide (n_0.2.2.2.2.2.2.1 ≥ 1)) (
         some (decide (n_0.2.2.2.2.2.2.1 <= 9))) (
         some false)) (
        some true)) (
       br (n_0.1 == 8) (
        br (decide (n_0.2.2.2.2.2.2.1 ≥ 1)) (
         some (decide (n_0.2.2.2.2.2.2.1 <= 9))) (
         some false)) (
        some true)))))))
def Ke (n:Nat) (g0:List (Int)×Int×Int×Int×Unit->Option (Int)) (x1:List (Int)×Int×Int×Int×Unit):Option (Int) :=let s_2:=x1.1
 let v_3:=x1.2.1
 let pK:=x1.2.2.1
 let zKn:=x1.2.2.2.1
 br (decide (zKn<pK)) (chk (inB zKn s_2.length) (let v6:Int:=bJ (Ty.dflt (.int .i64)) s_2 zKn
 br (v_3==v6) (some zKn) (let v7:Int:=IntKind.wrap .i64 (zKn+1)
 g0 (s_2,v_3,pK,v7,())))) (some (-1))
def xW (n:Nat) (x:List (Int)×Int):Option (Int) :=let s_0:=x.1
 let v_1:=x.2
 fix (Ke n) n (s_0,v_1,(s_0.length:Int),0,())
def oV (n:Nat) (x:List (Int)×Int):Option (Bool) :=let s_0:=x.1
 let v_1:=x.2
 ob (xW n (s_0,v_1)) fun y1 =>some (decide (y1≥0))
def kN (n:Nat) (x:List (NdT)×Int×List (Int)×Int×Int×Int×Int×Int×Unit):Option (Bool) :=let l_0:=x.1
 let n_1:=x.2
 br (n_1.1==4) (chk (inB n_1.2.2.1 l_0.length) (let v1:Int×List (Int)×Int×Int×Int×Int×Int×Unit:=bJ (Ty.dflt aG) l_0 n_1.2.2.1
 br (v1.1 != 4) (chk (inB n_1.2.2.1 l_0.length) (let v2:Int×List (Int)×Int×Int×Int×Int×Int×Unit:=bJ (Ty.dflt aG) l_0 n_1.2.2.1
 br (v2.1 != 5) (chk (inB n_1.2.2.2.1 l_0.length) (let v3:Int×List (Int)×Int×Int×Int×Int×Int×Unit:=bJ (Ty.dflt aG) l_0 n_1.2.2.2.1
 some (v3.1 != 5))) (some false))) (some false))) (br (n_1.1==5) (chk (inB n_1.2.2.1 l_0.length) (let v4:Int×List (Int)×Int×Int×Int×Int×Int×Unit:=bJ (Ty.dflt aG) l_0 n_1.2.2.1
 some (v4.1 != 5))) (br (n_1.1==6) (chk (inB n_1.2.2.1 l_0.length) (let v5:Int×List (Int)×Int×Int×Int×Int×Int×Unit:=bJ (Ty.dflt aG) l_0 n_1.2.2.1
 ob (oV n ([1,7,8],v5.1)) fun y6 =>some y6)) (some true)))
def gQ (n:Nat) (g0:List (NdT)×List (NdT)×Int×Int×List (Int)×Unit->Option (Bool)) (x1:List (NdT)×List (NdT)×Int×Int×List (Int)×Unit):Option (Bool) :=let l_2:=x1.1
 let Sc:=x1.2.1
 let Ym:=x1.2.2.1
 let lX:=x1.2.2.2.1
 let aX:=x1.2.2.2.2.1
 br (decide (lX<Ym)) (chk (inB lX Sc.length) (let v7:Int×List (Int)×Int×Int×Int×Int×Int×Unit:=bJ (Ty.dflt aG) Sc lX
 let v8:Int:=((aX.length:Nat):Int)
 ob (iR n v7) fun y9 =>let v10:Int:=IntKind.wrap .i64 (v8-y9)
 ob (qR n v7) fun y11 =>br (!y11) (some false) (br (decide (v10 < 0)) (some false) (br (v7.1==0) (br (decide ((l_2.length:Int) > 1)) (some false) (chk ((decide (0<=v10)&&decide (v10<=(aX.length:Int)))) (let v12:Int:=(((aX.length)-(v10.toNat):Nat):Int)
 br (decide (v12 > 0)) (chk ((inB 0 ((aX.length)-(v10.toNat))&&decide ((0+(v10.toNat))+((aX.length)-(v10.toNat))<=aX.length))) (chk (decide ((0+(v10.toNat))+(0:Int).toNat<aX.length)) (let v13:Int:=aX.getD ((0+(v10.toNat))+(0:Int).toNat) (Ty.dflt (.int .i64))
 br (v13 != v7.2.2.1) (some false) (let v14:Int:=(((aX.length)-(v10.toNat):Nat):Int)
 br (decide (v14 > 1)) (chk ((inB 1 ((aX.length)-(v10.toNat))&&decide ((0+(v10.toNat))+((aX.length)-(v10.toNat))<=aX.length))) (chk (decide ((0+(v10.toNat))+(1:Int).toNat<aX.length)) (let v15:Int:=aX.getD ((0+(v10.toNat))+(1:Int).toNat) (Ty.dflt (.int .i64))
 br (v15 != v7.2.2.2.1) (some false) (ob (kN n (l_2,v7)) fun y16 =>br (!y16) (some false) (chk ((decide (0<=v10)&&decide (v10<=(aX.length:Int)))) (chk ((Nat.ble (v10.toNat) aX.length&&Nat.ble (((v10.toNat)+([lX]:List (Int)).length) * 8) room)) (let r17:List (Int):=aX.take (v10.toNat)++[lX]
 let v18:Int:=IntKind.wrap .i64 (lX+1)
 g0 (l_2,Sc,Ym,v18,r17,())))))))) (ob (kN n (l_2,v7)) fun y19 =>br (!y19) (some false) (chk ((decide (0<=v10)&&decide (v10<=(aX.length:Int)))) (chk ((Nat.ble (v10.toNat) aX.length&&Nat.ble (((v10.toNat)+([lX]:List (Int)).length) * 8) room)) (let r20:List (Int):=aX.take (v10.toNat)++[lX]
 let v21:Int:=IntKind.wrap .i64 (lX+1)
 g0 (l_2,Sc,Ym,v21,r20,()))))))))) (ob (kN n (l_2,v7)) fun y22 =>br (!y22) (some false) (chk ((decide (0<=v10)&&decide (v10<=(aX.length:Int)))) (chk ((Nat.ble (v10.toNat) aX.length&&Nat.ble (((v10.toNat)+([lX]:List (Int)).length) * 8) room)) (let r23:List (Int):=aX.take (v10.toNat)++[lX]
 let v24:Int:=IntKind.wrap .i64 (lX+1)
 g0 (l_2,Sc,Ym,v24,r23,())))))))) (chk ((decide (0<=v10)&&decide (v10<=(aX.length:Int)))) (let v25:Int:=(((aX.length)-(v10.toNat):Nat):Int)
 br (decide (v25 > 0)) (chk ((inB 0 ((aX.length)-(v10.toNat))&&decide ((0+(v10.toNat))+((aX.length)-(v10.toNat))<=aX.length))) (chk (decide ((0+(v10.toNat))+(0:Int).toNat<aX.length)) (let v26:Int:=aX.getD ((0+(v10.toNat))+(0:Int).toNat) (Ty.dflt (.int .i64))
 br (v26 != v7.2.2.1) (some false) (let v27:Int:=(((aX.length)-(v10.toNat):Nat):Int)
 br (decide (v27 > 1)) (chk ((inB 1 ((aX.length)-(v10.toNat))&&decide ((0+(v10.toNat))+((aX.length)-(v10.toNat))<=aX.length))) (chk (decide ((0+(v10.toNat))+(1:Int).toNat<aX.length)) (let v28:Int:=aX.getD ((0+(v10.toNat))+(1:Int).toNat) (Ty.dflt (.int .i64))
 br (v28 != v7.2.2.2.1) (some false) (ob (kN n (l_2,v7)) fun y29 =>br (!y29) (some false) (chk ((decide (0<=v10)&&decide (v10<=(aX.length:Int)))) (chk ((Nat.ble (v10.toNat) aX.length&&Nat.ble (((v10.toNat)+([lX]:List (Int)).length) * 8) room)) (let r30:List (Int):=aX.take (v10.toNat)++[lX]
 let v31:Int:=IntKind.wrap .i64 (lX+1)
 g0 (l_2,Sc,Ym,v31,r30,())))))))) (ob (kN n (l_2,v7)) fun y32 =>br (!y32) (some false) (chk ((decide (0<=v10)&&decide (v10<=(aX.length:Int)))) (chk ((Nat.ble (v10.toNat) aX.length&&Nat.ble (((v10.toNat)+([lX]:List (Int)).length) * 8) room)) (let r33:List (Int):=aX.take (v10.toNat)++[lX]
 let v34:Int:=IntKind.wrap .i64 (lX+1)
 g0 (l_2,Sc,Ym,v34,r33,()))))))))) (ob (kN n (l_2,v7)) fun y35 =>br (!y35) (some false) (chk ((decide (0<=v10)&&decide (v10<=(aX.length:Int)))) (chk ((Nat.ble (v10.toNat) aX.length&&Nat.ble (((v10.toNat)+([lX]:List (Int)).length) * 8) room)) (let r36:List (Int):=aX.take (v10.toNat)++[lX]
 let v37:Int:=IntKind.wrap .i64 (lX+1)
 g0 (l_2,Sc,Ym,v37,r36,()))))))))))) (let v38:Int:=((aX.length:Nat):Int)
 some (v38==1))
def vL (n:Nat) (x:List (NdT)):Option (Bool) :=let l_0:=x
 fix (gQ n) n (l_0,l_0,(l_0.length:Int),0,[],())
def dQ (n:Nat) (dV:(Int×List (NdT)×Int×Bool×List (Bool)×Bool×Unit)->Option (List (NdT)×Int×Bool×List (Bool)×Bool×Unit)) (x:Int×List (NdT)×Int×Bool×List (Bool)×Bool×Unit):Option (List (NdT)×Int×Bool×List (Bool)×Bool×Unit) :=let i_1:=x.1
 let b2:=x.2.1
 let b3:=x.2.2.1
 let b4:=x.2.2.2.1
 let b5:=x.2.2.2.2.1
 let b6:=x.2.2.2.2.2.1
 chk (inB i_1 b2.length) (let v7:Int×List (Int)×Int×Int×Int×Int×Int×Unit:=bJ (Ty.dflt aG) b2 i_1
 br (v7.1==4) (br (v7.1==4) (ob (dV (v7.2.2.1,b2,b3,b4,b5,b6,())) fun y8 =>ob (dV (v7.2.2.2.1,y8.1,y8.2.1,y8.2.2.1,y8.2.2.2.1,y8.2.2.2.2.1,())) fun y9 =>some (y9.1,y9.2.1,y9.2.2.1,y9.2.2.2.1,y9.2.2.2.2.1,())) (br (v7.1==6) (ob (dV (v7.2.2.1,b2,b3,b4,b5,b6,())) fun y10 =>some (y10.1,y10.2.1,y10.2.2.1,y10.2.2.2.1,y10.2.2.2.2.1,())) (br (v7.1==7) (let v11:Int:=IntKind.wrap .i64 (b3+1)
 br b4 (ob (dV (v7.2.2.1,b2,v11,(v7.2.2.2.2.2.2.1==v11),b5,b6,())) fun y12 =>chk (inB v7.2.2.2.2.2.2.1 10) (chk (decide (v7.2.2.2.2.2.2.1.toNat < 10)) (some (y12.1,y12.2.1,y12.2.2.1,y12.2.2.2.1.set (v7.2.2.2.2.2.2.1.toNat) true,y12.2.2.2.2.1,())))) (ob (dV (v7.2.2.1,b2,v11,false,b5,b6,())) fun y13 =>chk (inB v7.2.2.2.2.2.2.1 10) (chk (decide (v7.2.2.2.2.2.2.1.toNat < 10)) (some (y13.1,y13.2.1,y13.2.2.1,y13.2.2.2.1.set (v7.2.2.2.2.2.2.1.toNat) true,y13.2.2.2.2.1,()))))) (br (v7.1==8) (br b4 (chk (inB v7.2.2.2.2.2.2.1 10) (chk (decide (v7.2.2.2.2.2.2.1.toNat < 10)) (some (b2,b3,b5.getD (v7.2.2.2.2.2.2.1.toNat) (Ty.dflt .bool),b5,true,())))) (some (b2,b3,false,b5,true,()))) (some (b2,b3,b4,b5,b6,())))))) (br (v7.1==5) (ob (dV (v7.2.2.1,b2,b3,b4,b5,b6,())) fun y14 =>ob (dV (v7.2.2.2.1,y14.1,y14.2.1,y14.2.2.1,y14.2.2.2.1,y14.2.2.2.2.1,())) fun y15 =>some (y15.1,y15.2.1,y15.2.2.1,y15.2.2.2.1,y15.2.2.2.2.1,())) (br (v7.1==6) (ob (dV (v7.2.2.1,b2,b3,b4,b5,b6,())) fun y16 =>some (y16.1,y16.2.1,y16.2.2.1,y16.2.2.2.1,y16.2.2.2.2.1,())) (br (v7.1==7) (let v17:Int:=IntKind.wrap .i64 (b3+1)
 br b4 (ob (dV (v7.2.2.1,b2,v17,(v7.2.2.2.2.2.2.1==v17),b5,b6,())) fun y18 =>chk (inB v7.2.2.2.2.2.2.1 10) (chk (decide (v7.2.2.2.2.2.2.1.toNat < 10)) (some (y18.1,y18.2.1,y18.2.2.1,y18.2.2.2.1.set (v7.2.2.2.2.2.2.1.toNat) true,y18.2.2.2.2.1,())))) (ob (dV (v7.2.2.1,b2,v17,false,b5,b6,())) fun y19 =>chk (inB v7.2.2.2.2.2.2.1 10) (chk (decide (v7.2.2.2.2.2.2.1.toNat < 10)) (some (y19.1,y19.2.1,y19.2.2.1,y19.2.2.2.1.set (v7.2.2.2.2.2.2.1.toNat) true,y19.2.2.2.2.1,()))))) (br (v7.1==8) (br b4 (chk (inB v7.2.2.2.2.2.2.1 10) (chk (decide (v7.2.2.2.2.2.2.1.toNat < 10)) (some (b2,b3,b5.getD (v7.2.2.2.2.2.2.1.toNat) (Ty.dflt .bool),b5,true,())))) (some (b2,b3,false,b5,true,()))) (some (b2,b3,b4,b5,b6,())))))))
def nA (n:Nat):(Int×List (NdT)×Int×Bool×List (Bool)×Bool×Unit)->Option (List (NdT)×Int×Bool×List (Bool)×Bool×Unit) :=zYs (fun n r x=>dQ n r x) n
def Cu (n:Nat) (x:List (NdT)):Option (Int×Bool×Bool) :=let l_0:=x
 let v1:Int:=IntKind.wrap .i64 ((l_0.length:Int) - 1)
 ob (nA n (v1,l_0,0,true,[false,false,false,false,false,false,false,false,false,false],false,())) fun y2 =>some (y2.2.1,y2.2.2.2.2.1,y2.2.2.1)
def yN (n:Nat) (x:List (NdT)):Option (Int×Bool×Bool) :=let l_0:=x
 br ((l_0.length:Int)==0) (some (0,false,false)) (br (decide ((l_0.length:Int) > 120)) (some (0,false,false)) (ob (vL n l_0) fun y1 =>br (!y1) (some (0,false,false)) (ob (Cu n l_0) fun y2 =>br (!y2.2.2) (some (0,false,false)) (some (y2.1,y2.2.1,true)))))
def zP (n:Nat) (x:List (NdT)):Option (Bool) :=let l_0:=x
 ob (yN n l_0) fun y1 =>some y1.2.2
def Hq (n:Nat) (x:Int):Option (List UInt8) :=let b_0:=x
 br (b_0==10) (some [92,110]) (ob (strings_IndexByte n ([46,91,92,42,94,36],b_0)) fun y1 =>br (decide (y1≥0)) (chk (decide ([92].length+(lJ [b_0]).length<=aH)) (some ([92]++(lJ [b_0])))) (some (lJ [b_0])))
def tH (n:Nat) (x:List (Int)×Int):Option (Bool) :=let s_0:=x.1
 let b_1:=x.2
 chk (decide (0<=6)) (chk (inB (nN .u8 b_1 6) 4) (chk (decide ((nN .u8 b_1 6).toNat < 4)) (let v1:Int:=s_0.getD ((nN .u8 b_1 6).toNat) (Ty.dflt (.int .u64))
 chk (decide (0<=eB .u8 .and b_1 63)) (let v2:Int:=nN .u64 v1 (eB .u8 .and b_1 63)
 some ((eB .u64 .and v2 1)==1)))))
def vM (n:Nat) (g0:List UInt8×Int×Int×List (List UInt8)×Unit->Option (List (List UInt8))) (x1:List UInt8×Int×Int×List (List UInt8)×Unit):Option (List (List UInt8)) :=let s_2:=x1.1
 let zSq:=x1.2.1
 let pK:=x1.2.2.1
 let wI:=x1.2.2.2.1
 br (decide (pK<zSq)) (let v6:Int:=((wI.length:Nat):Int)
 let v7:Int:=IntKind.wrap .i64 (v6 - 1)
 br (decide (v7≥0)) (chk (inB pK s_2.length) (let v8:Int:=((bJ 0 s_2 pK).toNat:Int)
 let v9:Int:=IntKind.wrap .i64 (pK - 1)
 chk (inB v9 s_2.length) (let v10:Int:=((bJ 0 s_2 v9).toNat:Int)
 let v11:Int:=IntKind.wrap .u8 (v10+1)
 br (v8==v11) (chk ((inB v7 (wI.length)&&decide (0+(wI.length)<=wI.length))) (chk (decide (0+v7.toNat<wI.length)) (let v12:List UInt8:=wI.getD (0+v7.toNat) (Ty.dflt .str)
 let v13:Int:=IntKind.wrap .i64 (pK+1)
 chk ((decide (0<=v13)&&decide (v13<=(s_2.length:Int))&&(decide (0<=pK)&&decide (pK<=v13)))) (let v14:List UInt8:=(s_2.take v13.toNat).drop pK.toNat
 chk (decide (v12.length+v14.length<=aH)) (chk ((inB v7 (wI.length)&&decide (0+(wI.length)<=wI.length))) (chk (decide (0+v7.toNat<wI.length)) (let r15:List (List UInt8):=wI.set (0+v7.toNat) (v12++v14)
 let v16:Int:=IntKind.wrap .i64 (pK+1)
 g0 (s_2,zSq,v16,r15,())))))))) (let v17:Int:=IntKind.wrap .i64 (pK+1)
 chk ((decide (0<=v17)&&decide (v17<=(s_2.length:Int))&&(decide (0<=pK)&&decide (pK<=v17)))) (let v18:List UInt8:=(s_2.take v17.toNat).drop pK.toNat
 chk (Nat.ble ((wI.length+([v18]:List (List UInt8)).length) * 16) room) (let v19:Int:=IntKind.wrap .i64 (pK+1)
 g0 (s_2,zSq,v19,wI++[v18],()))))))) (let v20:Int:=IntKind.wrap .i64 (pK+1)
 chk ((decide (0<=v20)&&decide (v20<=(s_2.length:Int))&&(decide (0<=pK)&&decide (pK<=v20)))) (let v21:List UInt8:=(s_2.take v20.toNat).drop pK.toNat
 chk (Nat.ble ((wI.length+([v21]:List (List UInt8)).length) * 16) room) (let v22:Int:=IntKind.wrap .i64 (pK+1)
 g0 (s_2,zSq,v22,wI++[v21],()))))) (some wI)
def Hr (n:Nat) (x:List UInt8):Option (List (List UInt8)) :=let s_0:=x
 fix (vM n) n (s_0,(s_0.length:Int),0,[],())
def nY (n:Nat) (g2:List UInt8×Int×Int×List (Int)×List (List UInt8)×Unit->Option (List UInt8)) (x35:List UInt8×Int×Int×List (Int)×List (List UInt8)×Unit):Option (List UInt8) :=let Kg:=x35.1
 let Lm:=x35.2.1
 let zQ:=x35.2.2.1
 let b39:=x35.2.2.2.1
 let Cv:=x35.2.2.2.2.1
 br (decide (zQ<Lm)) (chk ((inB zQ (Cv.length)&&decide (0+(Cv.length)<=Cv.length))) (chk (decide (0+zQ.toNat<Cv.length)) (let v41:List UInt8:=Cv.getD (0+zQ.toNat) (Ty.dflt .str)
 chk (inB 0 v41.length) (let v42:Int:=((bJ 0 v41 0).toNat:Int)
 ob (tH n (b39,v42)) fun y43 =>br y43 (br (v41==[10]) (chk (decide (Kg.length+([92,110]:List UInt8).length<=aH)) (let v44:Int:=IntKind.wrap .i64 (zQ+1)
 g2 (Kg++[92,110],Lm,v44,b39,Cv,()))) (chk (inB 0 v41.length) (let v45:Int:=((bJ 0 v41 0).toNat:Int)
 ob (tH n (b39,v45)) fun y46 =>br y46 (chk (decide (Kg.length+v41.length<=aH)) (let v47:Int:=IntKind.wrap .i64 (zQ+1)
 g2 (Kg++v41,Lm,v47,b39,Cv,()))) (let v48:Int:=IntKind.wrap .i64 (zQ+1)
 g2 (Kg,Lm,v48,b39,Cv,()))))) (chk (inB 0 v41.length) (let v49:Int:=((bJ 0 v41 0).toNat:Int)
 ob (tH n (b39,v49)) fun y50 =>br y50 (chk (decide (Kg.length+v41.length<=aH)) (let v51:Int:=IntKind.wrap .i64 (zQ+1)
 g2 (Kg++v41,Lm,v51,b39,Cv,()))) (let v52:Int:=IntKind.wrap .i64 (zQ+1)
 g2 (Kg,Lm,v52,b39,Cv,())))))))) (chk (decide (Kg.length+([93]:List UInt8).length<=aH)) (some (Kg++[93])))
def rG (n:Nat) (g1:List UInt8×List (List UInt8)×Int×Int×List (Int)×Unit->Option (List UInt8)) (x22:List UInt8×List (List UInt8)×Int×Int×List (Int)×Unit):Option (List UInt8) :=let zKo:=x22.1
 let zBg:=x22.2.1
 let zKp:=x22.2.2.1
 let Sd:=x22.2.2.2.1
 let b27:=x22.2.2.2.2.1
 br (decide (Sd<zKp)) (chk (inB Sd zBg.length) (let v28:List UInt8:=bJ (Ty.dflt .str) zBg Sd
 br (decide ((v28.length:Int) > 2)) (chk ((decide (0<=(1:Int))&&decide ((1:Int)<=(v28.length:Int)))) (chk (decide ((v28.take (1:Int).toNat).length+([45]:List UInt8).length<=aH)) (let v29:List UInt8:=(v28.take (1:Int).toNat)++[45]
 let v30:Int:=IntKind.wrap .i64 ((v28.length:Int) - 1)
 chk ((decide (0<=v30)&&decide (v30<=(v28.length:Int)))) (chk (decide (v29.length+(v28.drop v30.toNat).length<=aH)) (let v31:List UInt8:=v29++(v28.drop v30.toNat)
 chk (decide (zKo.length+v31.length<=aH)) (let v32:Int:=IntKind.wrap .i64 (Sd+1)
 g1 (zKo++v31,zBg,zKp,v32,b27,()))))))) (chk (decide (zKo.length+v28.length<=aH)) (let v33:Int:=IntKind.wrap .i64 (Sd+1)
 g1 (zKo++v28,zBg,zKp,v33,b27,()))))) (let v34:Int:=(([[10],[91],[92],[94],[45]].length:Nat):Int)
 fix (nY n) n (zKo,v34,0,b27,[[10],[91],[92],[94],[45]],()))
def rH (n:Nat) (g0:List UInt8×List (Int)×Int×Int×List (Int)×List (Int)×Unit->Option (List UInt8)) (x10:List UInt8×List (Int)×Int×Int×List (Int)×List (Int)×Unit):Option (List UInt8) :=let zZf:=x10.1
 let zBh:=x10.2.1
 let zKq:=x10.2.2.1
 let Sg:=x10.2.2.2.1
 let b15:=x10.2.2.2.2.1
 let zIb:=x10.2.2.2.2.2.1
 br (decide (Sg<zKq)) (chk (inB Sg zBh.length) (let v17:Int:=bJ (Ty.dflt (.int .u8)) zBh Sg
 ob (strings_IndexByte n ([93,91,92,94,45,10],v17)) fun y18 =>br (decide (y18 < 0)) (chk (Nat.ble ((zIb.length+([v17]:List (Int)).length) * 1) room) (let v19:Int:=IntKind.wrap .i64 (Sg+1)
 g0 (zZf,zBh,zKq,v19,b15,zIb++[v17],()))) (let v20:Int:=IntKind.wrap .i64 (Sg+1)
 g0 (zZf,zBh,zKq,v20,b15,zIb,())))) (ob (Hr n (lJ zIb)) fun y21 =>fix (rG n) n (zZf,y21,(y21.length:Int),0,b15,()))
def nZ (n:Nat) (x5:List UInt8×List UInt8×List (Int)×Unit):Option (List UInt8) :=let l_6:=x5.1
 let b_7:=x5.2.1
 let b8:=x5.2.2.1
 chk (Nat.ble l_6.length room) (let v9:Int:=((bF l_6).length:Int)
 fix (rH n) n (b_7,bF l_6,v9,0,b8,[],()))
def Bn (n:Nat) (x:List (Int)):Option (List UInt8) :=let s_0:=x
 ob (pX n s_0) fun y1 =>br ((y1.length:Int)==0) (some []) (br ((y1.length:Int)==1) (chk (inB 0 y1.length) (let v2:Int:=((bJ 0 y1 0).toNat:Int)
 ob (Hq n v2) fun y3 =>some y3)) (br ((y1.length:Int)==256) (some [46]) (br (y1==[45,94]) (some [91,45,94,93]) (ob (tH n (s_0,93)) fun y4 =>br y4 (chk (decide ([91].length+([93]:List UInt8).length<=aH)) (jn (nZ n) (y1,[91]++[93],s_0,()))) (jn (nZ n) (y1,[91],s_0,()))))))
def xM (n:Nat) (g0:List (NdT)×Int×Int×List (List UInt8)×Unit->Option (List UInt8)) (g1:Int×List UInt8×List (NdT)×Int×Int×List (Int)×Int×Int×List (List UInt8)×Unit->Option (List UInt8)) (x16:Int×List UInt8×List (NdT)×Int×Int×List (Int)×Int×Int×List (List UInt8)×Unit):Option (List UInt8) :=let zDr:=x16.1
 let zKr:=x16.2.1
 let zVh:=x16.2.2.1
 let zVi:=x16.2.2.2.1
 let zVj:=x16.2.2.2.2.1
 let zKs:=x16.2.2.2.2.2.1
 let zVk:=x16.2.2.2.2.2.2.1
 let zBi:=x16.2.2.2.2.2.2.2.1
 let zR:=x16.2.2.2.2.2.2.2.2.1
 br (decide (zBi<zVk)) (chk (inB zBi zKs.length) (let v26:Int:=bJ (Ty.dflt (.int .u8)) zKs zBi
 chk ((!decide (16 = 0))) (let v27:Int:=IntKind.wrap .u64 (Int.tdiv (IntKind.wrap .u64 v26) 16)
 ob (jT n (v27,16)) fun y28 =>chk ((!decide (16 = 0))) (let v29:Int:=Int.tmod (IntKind.wrap .u64 v26) 16
 ob (jT n (v29,16)) fun y30 =>chk (decide (y28.length+y30.length<=aH)) (chk (decide (zKr.length+(y28++y30).length<=aH)) (let v31:Int:=IntKind.wrap .i64 (zBi+1)
 g1 (zDr,zKr++(y28++y30),zVh,zVi,zVj,zKs,zVk,v31,zR,()))))))) (chk (decide (zKr.length+([93]:List UInt8).length<=aH)) (chk ((decide (0<=zDr)&&decide (zDr<=(zR.length:Int)))) (chk ((Nat.ble (zDr.toNat) zR.length&&Nat.ble (((zDr.toNat)+([zKr++[93]]:List (List UInt8)).length) * 16) room)) (let r32:List (List UInt8):=zR.take (zDr.toNat)++[zKr++[93]]
 let v33:Int:=IntKind.wrap .i64 (zVj+1)
 g0 (zVh,zVi,v33,r32,())))))
def gY (n:Nat) (g0:List (NdT)×Int×Int×List (List UInt8)×Unit->Option (List UInt8)) (x2:List (NdT)×Int×Int×List (List UInt8)×Unit):Option (List UInt8) :=let xO:=x2.1
 let zS:=x2.2.1
 let vN:=x2.2.2.1
 let aX:=x2.2.2.2.1
 br (decide (vN<zS)) (chk (inB vN xO.length) (let v7:Int×List (Int)×Int×Int×Int×Int×Int×Unit:=bJ (Ty.dflt aG) xO vN
 let v8:Int:=((aX.length:Nat):Int)
 ob (iR n v7) fun y9 =>let v10:Int:=IntKind.wrap .i64 (v8-y9)
 chk ((decide (0<=v10)&&decide (v10<=(aX.length:Int)))) (chk ((Nat.ble ((0+(v10.toNat))+((aX.length)-(v10.toNat))) aX.length&&true)) (ob (strings_Join n ((aX.drop (0+(v10.toNat))).take ((aX.length)-(v10.toNat)),[])) fun y11 =>br (v7.1==0) (chk ((decide (0<=v10)&&decide (v10<=(aX.length:Int)))) (chk ((Nat.ble (v10.toNat) aX.length&&Nat.ble (((v10.toNat)+([[101]]:List (List UInt8)).length) * 16) room)) (let r12:List (List UInt8):=aX.take (v10.toNat)++[[101]]
 let v13:Int:=IntKind.wrap .i64 (vN+1)
 g0 (xO,zS,v13,r12,())))) (br (v7.1==1) (ob (pX n v7.2.1) fun y14 =>chk (Nat.ble y14.length room) (let v15:Int:=((bF y14).length:Int)
 fix (xM n g0) n (v10,[91],xO,zS,vN,bF y14,v15,0,aX,()))) (br (v7.1==2) (chk ((decide (0<=v10)&&decide (v10<=(aX.length:Int)))) (chk ((Nat.ble (v10.toNat) aX.length&&Nat.ble (((v10.toNat)+([[94]]:List (List UInt8)).length) * 16) room)) (let r34:List (List UInt8):=aX.take (v10.toNat)++[[94]]
 let v35:Int:=IntKind.wrap .i64 (vN+1)
 g0 (xO,zS,v35,r34,())))) (br (v7.1==3) (chk ((decide (0<=v10)&&decide (v10<=(aX.length:Int)))) (chk ((Nat.ble (v10.toNat) aX.length&&Nat.ble (((v10.toNat)+([[36]]:List (List UInt8)).length) * 16) room)) (let r36:List (List UInt8):=aX.take (v10.toNat)++[[36]]
 let v37:Int:=IntKind.wrap .i64 (vN+1)
 g0 (xO,zS,v37,r36,())))) (br (v7.1==4) (chk (decide ([38].length+y11.length<=aH)) (chk ((decide (0<=v10)&&decide (v10<=(aX.length:Int)))) (chk ((Nat.ble (v10.toNat) aX.length&&Nat.ble (((v10.toNat)+([[38]++y11]:List (List UInt8)).length) * 16) room)) (let r38:List (List UInt8):=aX.take (v10.toNat)++[[38]++y11]
 let v39:Int:=IntKind.wrap .i64 (vN+1)
 g0 (xO,zS,v39,r38,()))))) (br (v7.1==5) (chk (decide ([124].length+y11.length<=aH)) (chk ((decide (0<=v10)&&decide (v10<=(aX.length:Int)))) (chk ((Nat.ble (v10.toNat) aX.length&&Nat.ble (((v10.toNat)+([[124]++y11]:List (List UInt8)).length) * 16) room)) (let r40:List (List UInt8):=aX.take (v10.toNat)++[[124]++y11]
 let v41:Int:=IntKind.wrap .i64 (vN+1)
 g0 (xO,zS,v41,r40,()))))) (br (v7.1==6) (ob (strconv_Itoa n v7.2.2.2.2.1) fun y42 =>chk (decide ([42].length+y42.length<=aH)) (chk (decide (([42]++y42).length+([44]:List UInt8).length<=aH)) (ob (strconv_Itoa n v7.2.2.2.2.2.1) fun y43 =>chk (decide ((([42]++y42)++[44]).length+y43.length<=aH)) (let v44:List UInt8:=(([42]++y42)++[44])++y43
 chk (decide (v44.length+([59]:List UInt8).length<=aH)) (chk (decide ((v44++[59]).length+y11.length<=aH)) (chk ((decide (0<=v10)&&decide (v10<=(aX.length:Int)))) (chk ((Nat.ble (v10.toNat) aX.length&&Nat.ble (((v10.toNat)+([(v44++[59])++y11]:List (List UInt8)).length) * 16) room)) (let r45:List (List UInt8):=aX.take (v10.toNat)++[(v44++[59])++y11]
 let v46:Int:=IntKind.wrap .i64 (vN+1)
 g0 (xO,zS,v46,r45,()))))))))) (br (v7.1==7) (chk (decide ([40].length+y11.length<=aH)) (chk (decide (([40]++y11).length+([41]:List UInt8).length<=aH)) (chk ((decide (0<=v10)&&decide (v10<=(aX.length:Int)))) (chk ((Nat.ble (v10.toNat) aX.length&&Nat.ble (((v10.toNat)+([([40]++y11)++[41]]:List (List UInt8)).length) * 16) room)) (let r47:List (List UInt8):=aX.take (v10.toNat)++[([40]++y11)++[41]]
 let v48:Int:=IntKind.wrap .i64 (vN+1)
 g0 (xO,zS,v48,r47,())))))) (br (v7.1==8) (ob (strconv_Itoa n v7.2.2.2.2.2.2.1) fun y49 =>chk (decide ([92].length+y49.length<=aH)) (chk ((decide (0<=v10)&&decide (v10<=(aX.length:Int)))) (chk ((Nat.ble (v10.toNat) aX.length&&Nat.ble (((v10.toNat)+([[92]++y49]:List (List UInt8)).length) * 16) room)) (let r50:List (List UInt8):=aX.take (v10.toNat)++[[92]++y49]
 let v51:Int:=IntKind.wrap .i64 (vN+1)
 g0 (xO,zS,v51,r50,()))))) (chk ((decide (0<=v10)&&decide (v10<=(aX.length:Int)))) (chk ((Nat.ble (v10.toNat) aX.length&&Nat.ble (((v10.toNat)+([[]]:List (List UInt8)).length) * 16) room)) (let r52:List (List UInt8):=aX.take (v10.toNat)++[[]]
 let v53:Int:=IntKind.wrap .i64 (vN+1)
 g0 (xO,zS,v53,r52,())))))))))))))))) (chk ((inB 0 (aX.length)&&decide (0+(aX.length)<=aX.length))) (chk (decide (0+(0:Int).toNat<aX.length)) (let v54:List UInt8:=aX.getD (0+(0:Int).toNat) (Ty.dflt .str)
 some v54)))
def vO (n:Nat) (x:List (NdT)):Option (List UInt8) :=let l_0:=x
 ob (zP n l_0) fun y1 =>br (!y1) (some []) (fix (gY n) n (l_0,(l_0.length:Int),0,[],()))
def Si (n:Nat) (x:List (NdT)):Option (Int) :=let l_0:=x
 ob (yN n l_0) fun y1 =>some y1.1
def nE (n:Nat) (g0:Int×Int×List (Bool)×List (Bool)×Unit->Option (List (Bool))) (x1:Int×Int×List (Bool)×List (Bool)×Unit):Option (List (Bool)) :=let b_2:=x1.1
 let i_3:=x1.2.1
 let b4:=x1.2.2.1
 let b5:=x1.2.2.2.1
 br (decide (i_3<=(IntKind.wrap .i64 b_2))) (chk (inB i_3 256) (chk (decide (i_3.toNat < 256)) (let v6:Int:=IntKind.wrap .i64 (i_3+1)
 g0 (b_2,v6,b4,b5.set (i_3.toNat) true,())))) (some b5)
def gB (n:Nat) (x:Int×Int):Option (List (Bool)) :=let a_0:=x.1
 let b_1:=x.2
 fix (nE n) n (b_1,IntKind.wrap .i64 a_0,(List.replicate 256 false),(List.replicate 256 false),())
def vP (n:Nat) (g0:Int×List (Bool)×List (Bool)×List (Bool)×Unit->Option (List (Bool))) (x1:Int×List (Bool)×List (Bool)×List (Bool)×Unit):Option (List (Bool)) :=let i_2:=x1.1
 let b3:=x1.2.1
 let b4:=x1.2.2.1
 let b5:=x1.2.2.2.1
 br (decide (i_2 < 256)) (chk (inB i_2 256) (chk (decide (i_2.toNat < 256)) (br (b3.getD (i_2.toNat) (Ty.dflt .bool)) (chk (inB i_2 256) (chk (decide (i_2.toNat < 256)) (let v6:Int:=IntKind.wrap .i64 (i_2+1)
 g0 (v6,b3.set (i_2.toNat) true,b4,b5,())))) (chk (inB i_2 256) (chk (decide (i_2.toNat < 256)) (chk (inB i_2 256) (chk (decide (i_2.toNat < 256)) (let v7:Int:=IntKind.wrap .i64 (i_2+1)
 g0 (v7,b3.set (i_2.toNat) (b4.getD (i_2.toNat) (Ty.dflt .bool)),b4,b5,()))))))))) (some b3)
def sG (n:Nat) (x:List (Bool)×List (Bool)):Option (List (Bool)) :=let a_0:=x.1
 let b_1:=x.2
 fix (vP n) n (0,a_0,b_1,(List.replicate 256 false),())
def vQ (n:Nat) (g0:List UInt8×Int×List (Bool)×List (Bool)×Unit->Option (List (Bool))) (x1:List UInt8×Int×List (Bool)×List (Bool)×Unit):Option (List (Bool)) :=let s_2:=x1.1
 let i_3:=x1.2.1
 let b4:=x1.2.2.1
 let b5:=x1.2.2.2.1
 br (decide (i_3<(s_2.length:Int))) (chk (inB i_3 s_2.length) (let v6:Int:=((bJ 0 s_2 i_3).toNat:Int)
 chk (inB v6 256) (chk (decide (v6.toNat < 256)) (let v7:Int:=IntKind.wrap .i64 (i_3+1)
 g0 (s_2,v7,b4,b5.set (v6.toNat) true,()))))) (some b5)
def Ht (n:Nat) (x:List UInt8):Option (List (Bool)) :=let s_0:=x
 fix (vQ n) n (s_0,0,(List.replicate 256 false),(List.replicate 256 false),())
def nG (n:Nat) (g0:Int×List (Bool)×List (Bool)×List (Bool)×Unit->Option (List (Bool)×Bool)) (x21:Int×List (Bool)×List (Bool)×List (Bool)×Unit):Option (List (Bool)×Bool) :=let xX:=x21.1
 let b23:=x21.2.1
 let b24:=x21.2.2.1
 let b25:=x21.2.2.2.1
 br (decide (xX < 256)) (chk (inB xX 256) (chk (decide (xX.toNat < 256)) (br (b25.getD (xX.toNat) (Ty.dflt .bool)) (chk (inB xX 256) (chk (decide (xX.toNat < 256)) (chk (inB xX 256) (chk (decide (xX.toNat < 256)) (let v26:Int:=IntKind.wrap .i64 (xX+1)
 g0 (v26,b23,b24,b25.set (xX.toNat) (!(b24.getD (xX.toNat) (Ty.dflt .bool))),())))))) (chk (inB xX 256) (chk (decide (xX.toNat < 256)) (let v27:Int:=IntKind.wrap .i64 (xX+1)
 g0 (v27,b23,b24,b25.set (xX.toNat) false,()))))))) (some (b25,true))
def Wy (n:Nat) (x:List UInt8):Option (List (Bool)×Bool) :=let gX:=x
 ob (gB n (65,90)) fun y1 =>ob (gB n (97,122)) fun y2 =>ob (gB n (48,57)) fun y3 =>ob (sG n (y1,y2)) fun y4 =>ob (sG n (y4,y3)) fun y5 =>br (gX==[117,112,112,101,114]) (some (y1,true)) (br (gX==[108,111,119,101,114]) (some (y2,true)) (br (gX==[97,108,112,104,97]) (ob (sG n (y1,y2)) fun y6 =>some (y6,true)) (br (gX==[100,105,103,105,116]) (some (y3,true)) (br (gX==[97,108,110,117,109]) (some (y5,true)) (br (gX==[120,100,105,103,105,116]) (ob (gB n (65,70)) fun y7 =>ob (gB n (97,102)) fun y8 =>ob (sG n (y7,y8)) fun y9 =>ob (sG n (y3,y9)) fun y10 =>some (y10,true)) (br (gX==[98,108,97,110,107]) (ob (Ht n [9,32]) fun y11 =>some (y11,true)) (br (gX==[115,112,97,99,101]) (ob (gB n (9,13)) fun y12 =>ob (Ht n [32]) fun y13 =>ob (sG n (y12,y13)) fun y14 =>some (y14,true)) (br (gX==[99,110,116,114,108]) (ob (gB n (0,31)) fun y15 =>ob (gB n (127,127)) fun y16 =>ob (sG n (y15,y16)) fun y17 =>some (y17,true)) (br (gX==[103,114,97,112,104]) (ob (gB n (33,126)) fun y18 =>some (y18,true)) (br (gX==[112,114,105,110,116]) (ob (gB n (32,126)) fun y19 =>some (y19,true)) (br (gX==[112,117,110,99,116]) (ob (gB n (33,126)) fun y20 =>fix (nG n) n (0,(List.replicate 256 false),y5,y20,())) (some ((List.replicate 256 false),false)))))))))))))
end Go.Dec
