/- Part of a proof over this seat: a library of my own, and what it says of this seat. No statement is proved here. -/
import Derived.Test.YthhbdkdofhhoeaaGreatDoorPartAL
import Derived.Test.YthhbdkdofhhoeaaGreatDoorPartAQ
namespace Go.Dec
set_option linter.unusedVariables false
abbrev aD:Ty:=.pair (.int .i64) (.pair (.arr 4 (.int .u64)) (.pair (.int .i64) (.pair (.int .i64) (.pair (.int .i64) (.pair (.int .i64) (.pair (.int .i64) .unit))))))
abbrev yPa:Ty:=.pair .str (.pair (.int .i64) .unit)
abbrev zKl:Ty:=.pair (.int .i64) (.pair (.int .i64) .unit)
abbrev Aq:Ty:=.pair .str (.pair (.int .i64) (.pair (.slice aD) (.pair (.int .i64) (.pair (.arr 10 .bool) .unit))))
abbrev Ar:Ty:=.pair (.slice aD) (.pair (.int .i64) (.pair (.arr 10 .bool) zKl))
abbrev zAi:Ty:=.pair (.int .i64) (.pair (.int .i64) (.pair (.slice (.int .i64)) (.pair (.slice (.int .i64)) .unit)))
abbrev Gn:Ty:=.pair .str (.pair (.int .i64) (.pair (.slice aD) (.pair (.int .i64) (.pair (.slice zAi) zKl))))
abbrev dG:Ty:=.pair (.slice aD) (.pair (.int .i64) zKl)
abbrev En:Ty:=.pair .bool (.pair (.int .i64) (.pair (.arr 10 .bool) (.pair .bool .unit)))
abbrev NdT:Type:=Int × List (Int) × Int × Int × Int × Int × Int × Unit
def jJ (n:Nat) (x:List UInt8×List UInt8):Option (Bool) :=let s_0:=x.1
 let Wo:=x.2
 br (decide ((s_0.length:Int)≥(Wo.length:Int))) (chk ((decide (0<=(Wo.length:Int))&&decide ((Wo.length:Int)<=(s_0.length:Int)))) (let v1:List UInt8:=s_0.take (Wo.length:Int).toNat
 some (v1==Wo))) (some false)
def strings_HasPrefix (n:Nat) (x:List UInt8×List UInt8):Option (Bool) :=let s_0:=x.1
 let Wo:=x.2
 ob (jJ n (s_0,Wo)) fun y1 =>some y1
def zRt (n:Nat) (g0:Int×List (Int)×List (Int)×Unit->Option (List (Int))) (x1:Int×List (Int)×List (Int)×Unit):Option (List (Int)) :=let zAj:=x1.1
 let b3:=x1.2.1
 let b4:=x1.2.2.1
 br (decide (zAj < 4)) (chk (inB zAj 4) (chk (decide (zAj.toNat < 4)) (let v5:Int:=b3.getD (zAj.toNat) (Ty.dflt (.int .u64))
 let v6:Int:=fE .u64 .xor 18446744073709551615 v5
 chk (inB zAj 4) (chk (decide (zAj.toNat < 4)) (let v7:Int:=IntKind.wrap .i64 (zAj+1)
 g0 (v7,b3.set (zAj.toNat) v6,b4,())))))) (some b3)
def Nl (n:Nat) (x:List (Int)):Option (List (Int)) :=let s_0:=x
 fix (zRt n) n (0,s_0,[0,0,0,0],())
def gK (n:Nat) (x:List UInt8×List UInt8×Int×Unit):Option (Bool×List UInt8×Int×Unit) :=let t_1:=x.1
 let s2:=x.2.1
 let at3:=x.2.2.1
 chk ((decide (0<=at3)&&decide (at3<=(s2.length:Int)))) (ob (strings_HasPrefix n (s2.drop at3.toNat,t_1)) fun y4 =>some (y4,s2,at3,()))
def fD (n:Nat) (x:List UInt8×List UInt8×Int×Unit):Option (Bool×List UInt8×Int×Unit) :=let t_1:=x.1
 let s2:=x.2.1
 let at3:=x.2.2.1
 ob (gK n (t_1,s2,at3,())) fun y4 =>br (!y4.1) (some (false,y4.2.1,y4.2.2.1,())) (let v5:Int:=IntKind.wrap .i64 (y4.2.2.1+(t_1.length:Int))
 some (true,y4.2.1,v5,()))
def bV (_n:Nat) (x:List UInt8×Int×Unit):Option (Sum (List UInt8×Int×Unit) (Int×Int×List UInt8×Int×Unit)):=some (.inr (42,0,x))
def sG (n:Nat) (g0:Int×Int×List (Int)×Unit->Option (List (Int))) (x1:Int×Int×List (Int)×Unit):Option (List (Int)) :=let b_2:=x1.1
 let i_3:=x1.2.1
 let b4:=x1.2.2.1
 br (decide (i_3<=(IntKind.wrap .i64 b_2))) (chk (decide (0<=6)) (chk (inB (pO .i64 i_3 6) 4) (chk (decide ((pO .i64 i_3 6).toNat < 4)) (let v5:Int:=b4.getD ((pO .i64 i_3 6).toNat) (Ty.dflt (.int .u64))
 chk (decide (0<=fE .i64 .and i_3 63)) (let v6:Int:=Zc .u64 1 (fE .i64 .and i_3 63)
 chk (inB (pO .i64 i_3 6) 4) (chk (decide ((pO .i64 i_3 6).toNat < 4)) (let v7:Int:=IntKind.wrap .i64 (i_3+1)
 g0 (b_2,v7,b4.set ((pO .i64 i_3 6).toNat) (fE .u64 .or v5 v6),())))))))) (some b4)
def eB (n:Nat) (x:Int×Int):Option (List (Int)) :=let a_0:=x.1
 let b_1:=x.2
 fix (sG n) n (b_1,IntKind.wrap .i64 a_0,[0,0,0,0],())
def zAk (n:Nat) (g0:List (List (Int))×Int×Int×List (Int)×Unit->Option (List (Int))) (g1:List (List (Int))×Int×Int×Int×List (Int)×List (Int)×Unit->Option (List (Int))) (x7:List (List (Int))×Int×Int×Int×List (Int)×List (Int)×Unit):Option (List (Int)) :=let yTn:=x7.1
 let yTo:=x7.2.1
 let yPb:=x7.2.2.1
 let yD:=x7.2.2.2.1
 let b12:=x7.2.2.2.2.1
 let b13:=x7.2.2.2.2.2.1
 br (decide (yD < 4)) (chk (inB yD 4) (chk (decide (yD.toNat < 4)) (let v14:Int:=b12.getD (yD.toNat) (Ty.dflt (.int .u64))
 chk (inB yD 4) (chk (decide (yD.toNat < 4)) (let v15:Int:=b13.getD (yD.toNat) (Ty.dflt (.int .u64))
 chk (inB yD 4) (chk (decide (yD.toNat < 4)) (let v16:Int:=IntKind.wrap .i64 (yD+1)
 g1 (yTn,yTo,yPb,v16,b12.set (yD.toNat) (fE .u64 .or v14 v15),b13,())))))))) (let v17:Int:=IntKind.wrap .i64 (yPb+1)
 g0 (yTn,yTo,v17,b12,()))
def Eo (n:Nat) (g0:List (List (Int))×Int×Int×List (Int)×Unit->Option (List (Int))) (x1:List (List (Int))×Int×Int×List (Int)×Unit):Option (List (Int)) :=let yMn:=x1.1
 let yTp:=x1.2.1
 let yEx:=x1.2.2.1
 let b5:=x1.2.2.2.1
 br (decide (yEx<yTp)) (chk (inB yEx yMn.length) (let v6:List (Int):=aR (Ty.dflt (.arr 4 (.int .u64))) yMn yEx
 fix (zAk n g0) n (yMn,yTp,yEx,0,b5,v6,()))) (some b5)
def qN (n:Nat) (x:List (List (Int))):Option (List (Int)) :=let l_0:=x
 fix (Eo n) n (l_0,(l_0.length:Int),0,[0,0,0,0],())
def Ep (n:Nat) (g0:List UInt8×Int×Int×List (Int)×Unit->Option (List (Int))) (x1:List UInt8×Int×Int×List (Int)×Unit):Option (List (Int)) :=let s_2:=x1.1
 let yTq:=x1.2.1
 let zNx:=x1.2.2.1
 let b5:=x1.2.2.2.1
 br (decide (zNx<yTq)) (chk (inB zNx s_2.length) (let v6:Int:=((aR 0 s_2 zNx).toNat:Int)
 chk (decide (0<=6)) (chk (inB (pO .u8 v6 6) 4) (chk (decide ((pO .u8 v6 6).toNat < 4)) (let v7:Int:=b5.getD ((pO .u8 v6 6).toNat) (Ty.dflt (.int .u64))
 chk (inB zNx s_2.length) (let v8:Int:=((aR 0 s_2 zNx).toNat:Int)
 chk (decide (0<=fE .u8 .and v8 63)) (let v9:Int:=Zc .u64 1 (fE .u8 .and v8 63)
 chk (inB (pO .u8 v6 6) 4) (chk (decide ((pO .u8 v6 6).toNat < 4)) (let v10:Int:=IntKind.wrap .i64 (zNx+1)
 g0 (s_2,yTq,v10,b5.set ((pO .u8 v6 6).toNat) (fE .u64 .or v7 v9),())))))))))) (some b5)
def wI (n:Nat) (x:List UInt8):Option (List (Int)) :=let s_0:=x
 fix (Ep n) n (s_0,(s_0.length:Int),0,[0,0,0,0],())
def Ka (n:Nat) (x:List UInt8):Option (List (Int)×Bool) :=let jA:=x
 ob (eB n (65,90)) fun y1 =>ob (eB n (97,122)) fun y2 =>ob (eB n (48,57)) fun y3 =>br (jA==[117,112,112,101,114]) (some (y1,true)) (br (jA==[108,111,119,101,114]) (some (y2,true)) (br (jA==[97,108,112,104,97]) (ob (qN n [y1,y2]) fun y4 =>some (y4,true)) (br (jA==[100,105,103,105,116]) (some (y3,true)) (br (jA==[97,108,110,117,109]) (ob (qN n [y1,y2,y3]) fun y5 =>some (y5,true)) (br (jA==[120,100,105,103,105,116]) (ob (eB n (65,70)) fun y6 =>ob (eB n (97,102)) fun y7 =>ob (qN n [y3,y6,y7]) fun y8 =>some (y8,true)) (br (jA==[98,108,97,110,107]) (ob (wI n [32,9]) fun y9 =>some (y9,true)) (br (jA==[115,112,97,99,101]) (ob (wI n [32,9,10,11,12,13]) fun y10 =>some (y10,true)) (br (jA==[99,110,116,114,108]) (ob (eB n (0,31)) fun y11 =>ob (wI n [127]) fun y12 =>ob (qN n [y11,y12]) fun y13 =>some (y13,true)) (br (jA==[103,114,97,112,104]) (ob (eB n (33,126)) fun y14 =>some (y14,true)) (br (jA==[112,114,105,110,116]) (ob (eB n (32,126)) fun y15 =>some (y15,true)) (br (jA==[112,117,110,99,116]) (ob (eB n (33,47)) fun y16 =>ob (eB n (58,64)) fun y17 =>ob (eB n (91,96)) fun y18 =>ob (eB n (123,126)) fun y19 =>ob (qN n [y16,y17,y18,y19]) fun y20 =>some (y20,true)) (some ([0,0,0,0],false)))))))))))))
def tN (n:Nat) (x21:List UInt8×List UInt8×Int×Unit):Option (Sum (Int×Bool×List UInt8×Int×Unit) (Int×Int×List UInt8×Int×Unit)) :=let yQk:=x21.1
 let s23:=x21.2.1
 let yMo:=x21.2.2.1
 chk (inB yMo s23.length) (let v25:Int:=((aR 0 s23 yMo).toNat:Int)
 let v26:Int:=IntKind.wrap .i64 (yMo+3)
 some (.inl (v25,(yQk==[46]),s23,v26,())))
def kP (n:Nat) (x41:List UInt8×Int×Unit):Option (Sum (Int×Bool×List UInt8×Int×Unit) (Int×Int×List UInt8×Int×Unit)) :=let s42:=x41.1
 let yZj:=x41.2.1
 let v44:Int:=IntKind.wrap .i64 (yZj+1)
 let v45:Int:=IntKind.wrap .i64 (v44 - 1)
 chk (inB v45 s42.length) (let v46:Int:=((aR 0 s42 v45).toNat:Int)
 some (.inl (v46,true,s42,v44,())))
def jE (n:Nat) (x30:Bool×Bool×List UInt8×Int×Unit):Option (Sum (Int×Bool×List UInt8×Int×Unit) (Int×Int×List UInt8×Int×Unit)) :=let Om:=x30.1
 let yBn:=x30.2.1
 let s33:=x30.2.2.1
 let yMp:=x30.2.2.2.1
 br (yMp==(s33.length:Int)) (ob2 (bV n (s33,yMp,())) (fun y35 =>none) (fun y35 =>some (.inr (y35.1,y35.2.1,y35.2.2.1,y35.2.2.2.1,())))) (ob (gK n ([91,58],s33,yMp,())) fun y36 =>br y36.1 (ob2 (bV n (y36.2.1,y36.2.2.1,())) (fun y37 =>none) (fun y37 =>some (.inr (y37.1,y37.2.1,y37.2.2.1,y37.2.2.2.1,())))) (ob (gK n ([93],y36.2.1,y36.2.2.1,())) fun y38 =>br y38.1 (br (!Om) (ob2 (bV n (y38.2.1,y38.2.2.1,())) (fun y39 =>none) (fun y39 =>some (.inr (y39.1,y39.2.1,y39.2.2.1,y39.2.2.2.1,())))) (br yBn (ob2 (bV n (y38.2.1,y38.2.2.1,())) (fun y40 =>none) (fun y40 =>some (.inr (y40.1,y40.2.1,y40.2.2.1,y40.2.2.2.1,())))) (jn (kP n) (y38.2.1,y38.2.2.1,())))) (br yBn (ob2 (bV n (y38.2.1,y38.2.2.1,())) (fun y47 =>none) (fun y47 =>some (.inr (y47.1,y47.2.1,y47.2.2.1,y47.2.2.2.1,())))) (jn (kP n) (y38.2.1,y38.2.2.1,())))))
def nM (n:Nat) (g0:Bool×Bool×Int×Int×List UInt8×Int×List (List UInt8)×Unit->Option (Sum (Int×Bool×List UInt8×Int×Unit) (Int×Int×List UInt8×Int×Unit))) (x6:Bool×Bool×Int×Int×List UInt8×Int×List (List UInt8)×Unit):Option (Sum (Int×Bool×List UInt8×Int×Unit) (Int×Int×List UInt8×Int×Unit)) :=let Nn:=x6.1
 let yIh:=x6.2.1
 let yPc:=x6.2.2.1
 let zAl:=x6.2.2.2.1
 let s11:=x6.2.2.2.2.1
 let zVz:=x6.2.2.2.2.2.1
 let Rb:=x6.2.2.2.2.2.2.1
 br (decide (zAl<yPc)) (chk ((inB zAl (Rb.length)&&decide (0+(Rb.length)<=Rb.length))) (chk (decide (0+zAl.toNat<Rb.length)) (let v14:List UInt8:=Rb.getD (0+zAl.toNat) (Ty.dflt .str)
 chk (decide ([91].length+v14.length<=aG)) (ob (fD n ([91]++v14,s11,zVz,())) fun y15 =>br (!y15.1) (let v16:Int:=IntKind.wrap .i64 (zAl+1)
 g0 (Nn,yIh,yPc,v16,y15.2.1,y15.2.2.1,Rb,())) (br ((y15.2.1.length:Int)==y15.2.2.1) (ob2 (bV n (y15.2.1,y15.2.2.1,())) (fun y17 =>none) (fun y17 =>some (.inr (y17.1,y17.2.1,y17.2.2.1,y17.2.2.2.1,())))) (let v18:Int:=IntKind.wrap .i64 (y15.2.2.1+1)
 chk ((decide (0<=v18)&&decide (v18<=(y15.2.1.length:Int)))) (chk (decide (v14.length+([93]:List UInt8).length<=aG)) (ob (strings_HasPrefix n (y15.2.1.drop v18.toNat,v14++[93])) fun y19 =>br (!y19) (ob2 (bV n (y15.2.1,y15.2.2.1,())) (fun y20 =>none) (fun y20 =>some (.inr (y20.1,y20.2.1,y20.2.2.1,y20.2.2.2.1,())))) (jn (tN n) (v14,y15.2.1,y15.2.2.1,())))))))))) (ob (fD n ([92,110],s11,zVz,())) fun y27 =>br y27.1 (some (.inl (10,true,y27.2.1,y27.2.2.1,()))) (ob (gK n ([45],y27.2.1,y27.2.2.1,())) fun y28 =>br y28.1 (br (!Nn) (br (!yIh) (ob (gK n ([45,93],y28.2.1,y28.2.2.1,())) fun y29 =>jn (jE n) (Nn,(!y29.1),y29.2.1,y29.2.2.1,())) (jn (jE n) (Nn,false,y28.2.1,y28.2.2.1,()))) (jn (jE n) (Nn,false,y28.2.1,y28.2.2.1,()))) (jn (jE n) (Nn,false,y28.2.1,y28.2.2.1,()))))
def nD (n:Nat) (x:Bool×Bool×List UInt8×Int×Unit):Option (Sum (Int×Bool×List UInt8×Int×Unit) (Int×Int×List UInt8×Int×Unit)) :=let zNy:=x.1
 let yTr:=x.2.1
 let s3:=x.2.2.1
 let at4:=x.2.2.2.1
 let v5:Int:=(([[46],[61]].length:Nat):Int)
 fix (nM n) n (zNy,yTr,v5,0,s3,at4,[[46],[61]],())
def oO (n:Nat) (x:Bool×List UInt8×Int×Unit):Option (Sum (List (Int)×List UInt8×Int×Unit) (Int×Int×List UInt8×Int×Unit)) :=let zNy:=x.1
 let s2:=x.2.1
 let at3:=x.2.2.1
 ob (fD n ([91,58],s2,at3,())) fun y4 =>br y4.1 (chk ((decide (0<=y4.2.2.1)&&decide (y4.2.2.1<=(y4.2.1.length:Int)))) (let v5:List UInt8:=y4.2.1.drop y4.2.2.1.toNat
 ob (strings_Cut n (v5,[58,93])) fun y6 =>let v7:Int:=IntKind.wrap .i64 (y4.2.2.1+(y6.1.length:Int))
 ob (Ka n y6.1) fun y8 =>br (!y8.2) (ob2 (bV n (y4.2.1,v7,())) (fun y9 =>none) (fun y9 =>some (.inr (y9.1,y9.2.1,y9.2.2.1,y9.2.2.2.1,())))) (ob (fD n ([58,93],y4.2.1,v7,())) fun y10 =>br (!y10.1) (ob2 (bV n (y10.2.1,y10.2.2.1,())) (fun y11 =>none) (fun y11 =>some (.inr (y11.1,y11.2.1,y11.2.2.1,y11.2.2.2.1,())))) (some (.inl (y8.1,y10.2.1,y10.2.2.1,())))))) (ob2 (nD n (zNy,false,y4.2.1,y4.2.2.1,())) (fun y12 =>ob (gK n ([45],y12.2.2.1,y12.2.2.2.1,())) fun y13 =>br (!y13.1) (ob (eB n (y12.1,y12.1)) fun y14 =>some (.inl (y14,y13.2.1,y13.2.2.1,()))) (ob (gK n ([45,93],y13.2.1,y13.2.2.1,())) fun y15 =>br y15.1 (ob (eB n (y12.1,y12.1)) fun y16 =>some (.inl (y16,y15.2.1,y15.2.2.1,()))) (let v17:Int:=IntKind.wrap .i64 (y15.2.2.1+1)
 br (v17==(y15.2.1.length:Int)) (ob (eB n (y12.1,y12.1)) fun y18 =>some (.inl (y18,y15.2.1,y15.2.2.1,()))) (let v19:Int:=IntKind.wrap .i64 (y15.2.2.1+1)
 ob2 (nD n (false,true,y15.2.1,v19,())) (fun y20 =>br (!y12.2.1) (ob2 (bV n (y20.2.2.1,y20.2.2.2.1,())) (fun y21 =>none) (fun y21 =>some (.inr (y21.1,y21.2.1,y21.2.2.1,y21.2.2.2.1,())))) (br (!y20.2.1) (ob2 (bV n (y20.2.2.1,y20.2.2.2.1,())) (fun y22 =>none) (fun y22 =>some (.inr (y22.1,y22.2.1,y22.2.2.1,y22.2.2.2.1,())))) (br (decide (y20.1<y12.1)) (ob2 (bV n (y20.2.2.1,y20.2.2.2.1,())) (fun y23 =>none) (fun y23 =>some (.inr (y23.1,y23.2.1,y23.2.2.1,y23.2.2.2.1,())))) (ob (eB n (y12.1,y20.1)) fun y24 =>some (.inl (y24,y20.2.2.1,y20.2.2.2.1,())))))) (fun y20 =>some (.inr (y20.1,y20.2.1,y20.2.2.1,y20.2.2.2.1,()))))))) (fun y12 =>some (.inr (y12.1,y12.2.1,y12.2.2.1,y12.2.2.2.1,()))))
def mW (n:Nat) (g0:Bool×Bool×List (Int)×List UInt8×Int×Unit->Option (Sum (List (Int)×List UInt8×Int×Unit) (Int×Int×List (Int)×List UInt8×Int×Unit))) (x7:Bool×Bool×List (Int)×List UInt8×Int×Unit):Option (Sum (List (Int)×List UInt8×Int×Unit) (Int×Int×List (Int)×List UInt8×Int×Unit)) :=let yEy:=x7.1
 let zNz:=x7.2.1
 let b10:=x7.2.2.1
 let s11:=x7.2.2.2.1
 let zVz:=x7.2.2.2.2.1
 br zNz (ob2 (oO n (zNz,s11,zVz,())) (fun y13 =>ob (qN n [b10,y13.1]) fun y14 =>g0 (yEy,false,y14,y13.2.1,y13.2.2.1,())) (fun y13 =>some (.inr (y13.1,y13.2.1,b10,y13.2.2.1,y13.2.2.2.1,())))) (ob (fD n ([93],s11,zVz,())) fun y15 =>br (!y15.1) (ob2 (oO n (zNz,y15.2.1,y15.2.2.1,())) (fun y16 =>ob (qN n [b10,y16.1]) fun y17 =>g0 (yEy,false,y17,y16.2.1,y16.2.2.1,())) (fun y16 =>some (.inr (y16.1,y16.2.1,b10,y16.2.2.1,y16.2.2.2.1,())))) (br yEy (ob (Nl n b10) fun y18 =>br (Ty.beq (.arr 4 (.int .u64)) y18 ([0,0,0,0])) (ob2 (bV n (y15.2.1,y15.2.2.1,())) (fun y19 =>none) (fun y19 =>some (.inr (y19.1,y19.2.1,y18,y19.2.2.1,y19.2.2.2.1,())))) (some (.inl (y18,y15.2.1,y15.2.2.1,())))) (br (Ty.beq (.arr 4 (.int .u64)) b10 ([0,0,0,0])) (ob2 (bV n (y15.2.1,y15.2.2.1,())) (fun y20 =>none) (fun y20 =>some (.inr (y20.1,y20.2.1,b10,y20.2.2.1,y20.2.2.2.1,())))) (some (.inl (b10,y15.2.1,y15.2.2.1,()))))))
def mI (n:Nat) (x:List (Int)×List UInt8×Int×Unit):Option (Sum (List (Int)×List UInt8×Int×Unit) (Int×Int×List (Int)×List UInt8×Int×Unit)) :=let b1:=x.1
 let s2:=x.2.1
 let at3:=x.2.2.1
 ob (fD n ([91],s2,at3,())) fun y4 =>br (!y4.1) (ob2 (bV n (y4.2.1,y4.2.2.1,())) (fun y5 =>none) (fun y5 =>some (.inr (y5.1,y5.2.1,b1,y5.2.2.1,y5.2.2.2.1,())))) (ob (fD n ([94],y4.2.1,y4.2.2.1,())) fun y6 =>fix (mW n) n (y6.1,true,b1,y6.2.1,y6.2.2.1,()))
def iI (n:Nat) (x:List (Int)×List UInt8×Int×Unit):Option (Int×Int×List (Int)×List UInt8×Int×Unit):=ob2 (mI n x) (fun y=>some (0,0,y)) (fun y=>some y)
def tO (n:Nat) (x:List UInt8):Option (List (Int)×Int×Int) :=let s_0:=x
 ob (iI n ([0,0,0,0],s_0,0,())) fun y1 =>br (y1.1 != 0) (some ([0,0,0,0],0,y1.1)) (some (y1.2.2.1,y1.2.2.2.2.1,0))
def jQ (n:Nat) (x:Int×List (Int)×Int×Int×Int×Int×Int×Unit):Option (Int) :=let n_0:=x
 br (n_0.1==4) (br (n_0.1==4) (some 2) (br (n_0.1==6) (br (n_0.1==6) (some 1) (some 0)) (br (n_0.1==7) (some 1) (some 0)))) (br (n_0.1==5) (some 2) (br (n_0.1==6) (br (n_0.1==6) (some 1) (some 0)) (br (n_0.1==7) (some 1) (some 0))))
def dJ (n:Nat) (x:Int×List (Int)×Int×Int×Int×Int×Int×Unit):Option (NdT) :=let n_0:=x
 br (n_0.1==1) (some (n_0.1,(n_0.2.1,(0,(0,(0,(0,(0,())))))))) (br (n_0.1==4) (br (n_0.1==4) (some (n_0.1,([0,0,0,0],(n_0.2.2.1,(n_0.2.2.2.1,(0,(0,(0,())))))))) (br (n_0.1==6) (some (n_0.1,([0,0,0,0],(n_0.2.2.1,(0,(n_0.2.2.2.2.1,(n_0.2.2.2.2.2.1,(0,())))))))) (br (n_0.1==7) (some (n_0.1,([0,0,0,0],(n_0.2.2.1,(0,(0,(0,n_0.2.2.2.2.2.2))))))) (br (n_0.1==8) (some (n_0.1,([0,0,0,0],(0,(0,(0,(0,n_0.2.2.2.2.2.2))))))) (some (n_0.1,([0,0,0,0],(0,(0,(0,(0,(0,())))))))))))) (br (n_0.1==5) (some (n_0.1,([0,0,0,0],(n_0.2.2.1,(n_0.2.2.2.1,(0,(0,(0,())))))))) (br (n_0.1==6) (some (n_0.1,([0,0,0,0],(n_0.2.2.1,(0,(n_0.2.2.2.2.1,(n_0.2.2.2.2.2.1,(0,())))))))) (br (n_0.1==7) (some (n_0.1,([0,0,0,0],(n_0.2.2.1,(0,(0,(0,n_0.2.2.2.2.2.2))))))) (br (n_0.1==8) (some (n_0.1,([0,0,0,0],(0,(0,(0,(0,n_0.2.2.2.2.2.2))))))) (some (n_0.1,([0,0,0,0],(0,(0,(0,(0,(0,())))))))))))))
def tQ(n:Nat)(x:Int × List (Int) × Int × Int × Int × Int × Int × Unit):Option (Bool):=
 let n_0:Int × List (Int) × Int × Int × Int × Int × Int × Unit:=x
 br (decide (n_0.1<0)) (
  some false) (
  br (decide (n_0.1>8)) (
   some false) (
   ob (dJ n n_0) λy1 =>
   br (!(Ty.beq aD n_0 y1)) (
    some false) (
    br (n_0.1==1) (
     some (!(Ty.beq (.arr 4 (.int .u64)) n_0.2.1 ([0,0,0,0])))) (
     br (n_0.1==6) (
      br (decide (n_0.2.2.2.2.1≥0)) (
       br (decide (n_0.2.2.2.2.1<=255)) (
        br (n_0.2.2.2.2.2.1==(-1)) (
         some true) (
         let v2:Int:=if 1>n_0.2.2.2.2.1 then 1 else n_0.2.2.2.2.1
         br (decide (n_0.2.2.2.2.2.1≥v2)) (
          some (decide (n_0.2.2.2.2.2.1<=255))) (
          some false))) (
        some false)) (
       some false)) (
      br (n_0.1==7) (
       br (n_0.1==7) (
        br (decide (n_0.2.2.2.2.2.2.1≥1)) (
         some (decide (n_0.2.2.2.2.2.2.1<=9))) (
         some false)) (
        some true)) (
       br (n_0.1==8) (
        br (decide (n_0.2.2.2.2.2.2.1≥1)) (
         some (decide (n_0.2.2.2.2.2.2.1<=9))) (
         some false)) (
        some true)))))))
def Sd (n:Nat) (g0:List (Int)×Int×Int×Int×Unit->Option (Int)) (x1:List (Int)×Int×Int×Int×Unit):Option (Int) :=let s_2:=x1.1
 let v_3:=x1.2.1
 let rR:=x1.2.2.1
 let zWa:=x1.2.2.2.1
 br (decide (zWa<rR)) (chk (inB zWa s_2.length) (let v6:Int:=aR (Ty.dflt (.int .i64)) s_2 zWa
 br (v_3==v6) (some zWa) (let v7:Int:=IntKind.wrap .i64 (zWa+1)
 g0 (s_2,v_3,rR,v7,())))) (some (-1))
def Ci (n:Nat) (x:List (Int)×Int):Option (Int) :=let s_0:=x.1
 let v_1:=x.2
 fix (Sd n) n (s_0,v_1,(s_0.length:Int),0,())
def rA (n:Nat) (x:List (Int)×Int):Option (Bool) :=let s_0:=x.1
 let v_1:=x.2
 ob (Ci n (s_0,v_1)) fun y1 =>some (decide (y1≥0))
def mG (n:Nat) (x:List (NdT)×Int×List (Int)×Int×Int×Int×Int×Int×Unit):Option (Bool) :=let l_0:=x.1
 let n_1:=x.2
 br (n_1.1==4) (chk (inB n_1.2.2.1 l_0.length) (let v1:Int×List (Int)×Int×Int×Int×Int×Int×Unit:=aR (Ty.dflt aD) l_0 n_1.2.2.1
 br (v1.1 != 4) (chk (inB n_1.2.2.1 l_0.length) (let v2:Int×List (Int)×Int×Int×Int×Int×Int×Unit:=aR (Ty.dflt aD) l_0 n_1.2.2.1
 br (v2.1 != 5) (chk (inB n_1.2.2.2.1 l_0.length) (let v3:Int×List (Int)×Int×Int×Int×Int×Int×Unit:=aR (Ty.dflt aD) l_0 n_1.2.2.2.1
 some (v3.1 != 5))) (some false))) (some false))) (br (n_1.1==5) (chk (inB n_1.2.2.1 l_0.length) (let v4:Int×List (Int)×Int×Int×Int×Int×Int×Unit:=aR (Ty.dflt aD) l_0 n_1.2.2.1
 some (v4.1 != 5))) (br (n_1.1==6) (chk (inB n_1.2.2.1 l_0.length) (let v5:Int×List (Int)×Int×Int×Int×Int×Int×Unit:=aR (Ty.dflt aD) l_0 n_1.2.2.1
 ob (rA n ([1,7,8],v5.1)) fun y6 =>some y6)) (some true)))
def iY (n:Nat) (g0:List (NdT)×List (NdT)×Int×Int×List (Int)×Unit->Option (Bool)) (x1:List (NdT)×List (NdT)×Int×Int×List (Int)×Unit):Option (Bool) :=let l_2:=x1.1
 let zAm:=x1.2.1
 let zHf:=x1.2.2.1
 let nN:=x1.2.2.2.1
 let bE:=x1.2.2.2.2.1
 br (decide (nN<zHf)) (chk (inB nN zAm.length) (let v7:Int×List (Int)×Int×Int×Int×Int×Int×Unit:=aR (Ty.dflt aD) zAm nN
 let v8:Int:=((bE.length:Nat):Int)
 ob (jQ n v7) fun y9 =>let v10:Int:=IntKind.wrap .i64 (v8-y9)
 ob (tQ n v7) fun y11 =>br (!y11) (some false) (br (decide (v10 < 0)) (some false) (br (v7.1==0) (br (decide ((l_2.length:Int) > 1)) (some false) (chk ((decide (0<=v10)&&decide (v10<=(bE.length:Int)))) (let v12:Int:=(((bE.length)-(v10.toNat):Nat):Int)
 br (decide (v12 > 0)) (chk ((inB 0 ((bE.length)-(v10.toNat))&&decide ((0+(v10.toNat))+((bE.length)-(v10.toNat))<=bE.length))) (chk (decide ((0+(v10.toNat))+(0:Int).toNat<bE.length)) (let v13:Int:=bE.getD ((0+(v10.toNat))+(0:Int).toNat) (Ty.dflt (.int .i64))
 br (v13 != v7.2.2.1) (some false) (let v14:Int:=(((bE.length)-(v10.toNat):Nat):Int)
 br (decide (v14 > 1)) (chk ((inB 1 ((bE.length)-(v10.toNat))&&decide ((0+(v10.toNat))+((bE.length)-(v10.toNat))<=bE.length))) (chk (decide ((0+(v10.toNat))+(1:Int).toNat<bE.length)) (let v15:Int:=bE.getD ((0+(v10.toNat))+(1:Int).toNat) (Ty.dflt (.int .i64))
 br (v15 != v7.2.2.2.1) (some false) (ob (mG n (l_2,v7)) fun y16 =>br (!y16) (some false) (chk ((decide (0<=v10)&&decide (v10<=(bE.length:Int)))) (chk ((Nat.ble (v10.toNat) bE.length&&Nat.ble (((v10.toNat)+([nN]:List (Int)).length) * 8) room)) (let r17:List (Int):=bE.take (v10.toNat)++[nN]
 let v18:Int:=IntKind.wrap .i64 (nN+1)
 g0 (l_2,zAm,zHf,v18,r17,())))))))) (ob (mG n (l_2,v7)) fun y19 =>br (!y19) (some false) (chk ((decide (0<=v10)&&decide (v10<=(bE.length:Int)))) (chk ((Nat.ble (v10.toNat) bE.length&&Nat.ble (((v10.toNat)+([nN]:List (Int)).length) * 8) room)) (let r20:List (Int):=bE.take (v10.toNat)++[nN]
 let v21:Int:=IntKind.wrap .i64 (nN+1)
 g0 (l_2,zAm,zHf,v21,r20,()))))))))) (ob (mG n (l_2,v7)) fun y22 =>br (!y22) (some false) (chk ((decide (0<=v10)&&decide (v10<=(bE.length:Int)))) (chk ((Nat.ble (v10.toNat) bE.length&&Nat.ble (((v10.toNat)+([nN]:List (Int)).length) * 8) room)) (let r23:List (Int):=bE.take (v10.toNat)++[nN]
 let v24:Int:=IntKind.wrap .i64 (nN+1)
 g0 (l_2,zAm,zHf,v24,r23,())))))))) (chk ((decide (0<=v10)&&decide (v10<=(bE.length:Int)))) (let v25:Int:=(((bE.length)-(v10.toNat):Nat):Int)
 br (decide (v25 > 0)) (chk ((inB 0 ((bE.length)-(v10.toNat))&&decide ((0+(v10.toNat))+((bE.length)-(v10.toNat))<=bE.length))) (chk (decide ((0+(v10.toNat))+(0:Int).toNat<bE.length)) (let v26:Int:=bE.getD ((0+(v10.toNat))+(0:Int).toNat) (Ty.dflt (.int .i64))
 br (v26 != v7.2.2.1) (some false) (let v27:Int:=(((bE.length)-(v10.toNat):Nat):Int)
 br (decide (v27 > 1)) (chk ((inB 1 ((bE.length)-(v10.toNat))&&decide ((0+(v10.toNat))+((bE.length)-(v10.toNat))<=bE.length))) (chk (decide ((0+(v10.toNat))+(1:Int).toNat<bE.length)) (let v28:Int:=bE.getD ((0+(v10.toNat))+(1:Int).toNat) (Ty.dflt (.int .i64))
 br (v28 != v7.2.2.2.1) (some false) (ob (mG n (l_2,v7)) fun y29 =>br (!y29) (some false) (chk ((decide (0<=v10)&&decide (v10<=(bE.length:Int)))) (chk ((Nat.ble (v10.toNat) bE.length&&Nat.ble (((v10.toNat)+([nN]:List (Int)).length) * 8) room)) (let r30:List (Int):=bE.take (v10.toNat)++[nN]
 let v31:Int:=IntKind.wrap .i64 (nN+1)
 g0 (l_2,zAm,zHf,v31,r30,())))))))) (ob (mG n (l_2,v7)) fun y32 =>br (!y32) (some false) (chk ((decide (0<=v10)&&decide (v10<=(bE.length:Int)))) (chk ((Nat.ble (v10.toNat) bE.length&&Nat.ble (((v10.toNat)+([nN]:List (Int)).length) * 8) room)) (let r33:List (Int):=bE.take (v10.toNat)++[nN]
 let v34:Int:=IntKind.wrap .i64 (nN+1)
 g0 (l_2,zAm,zHf,v34,r33,()))))))))) (ob (mG n (l_2,v7)) fun y35 =>br (!y35) (some false) (chk ((decide (0<=v10)&&decide (v10<=(bE.length:Int)))) (chk ((Nat.ble (v10.toNat) bE.length&&Nat.ble (((v10.toNat)+([nN]:List (Int)).length) * 8) room)) (let r36:List (Int):=bE.take (v10.toNat)++[nN]
 let v37:Int:=IntKind.wrap .i64 (nN+1)
 g0 (l_2,zAm,zHf,v37,r36,()))))))))))) (let v38:Int:=((bE.length:Nat):Int)
 some (v38==1))
def zC (n:Nat) (x:List (NdT)):Option (Bool) :=let l_0:=x
 fix (iY n) n (l_0,l_0,(l_0.length:Int),0,[],())
def eU (n:Nat) (eZ:(Int×List (NdT)×Int×Bool×List (Bool)×Bool×Unit)->Option (List (NdT)×Int×Bool×List (Bool)×Bool×Unit)) (x:Int×List (NdT)×Int×Bool×List (Bool)×Bool×Unit):Option (List (NdT)×Int×Bool×List (Bool)×Bool×Unit) :=let i_1:=x.1
 let b2:=x.2.1
 let b3:=x.2.2.1
 let b4:=x.2.2.2.1
 let b5:=x.2.2.2.2.1
 let b6:=x.2.2.2.2.2.1
 chk (inB i_1 b2.length) (let v7:Int×List (Int)×Int×Int×Int×Int×Int×Unit:=aR (Ty.dflt aD) b2 i_1
 br (v7.1==4) (br (v7.1==4) (ob (eZ (v7.2.2.1,b2,b3,b4,b5,b6,())) fun y8 =>ob (eZ (v7.2.2.2.1,y8.1,y8.2.1,y8.2.2.1,y8.2.2.2.1,y8.2.2.2.2.1,())) fun y9 =>some (y9.1,y9.2.1,y9.2.2.1,y9.2.2.2.1,y9.2.2.2.2.1,())) (br (v7.1==6) (ob (eZ (v7.2.2.1,b2,b3,b4,b5,b6,())) fun y10 =>some (y10.1,y10.2.1,y10.2.2.1,y10.2.2.2.1,y10.2.2.2.2.1,())) (br (v7.1==7) (let v11:Int:=IntKind.wrap .i64 (b3+1)
 br b4 (ob (eZ (v7.2.2.1,b2,v11,(v7.2.2.2.2.2.2.1==v11),b5,b6,())) fun y12 =>chk (inB v7.2.2.2.2.2.2.1 10) (chk (decide (v7.2.2.2.2.2.2.1.toNat < 10)) (some (y12.1,y12.2.1,y12.2.2.1,y12.2.2.2.1.set (v7.2.2.2.2.2.2.1.toNat) true,y12.2.2.2.2.1,())))) (ob (eZ (v7.2.2.1,b2,v11,false,b5,b6,())) fun y13 =>chk (inB v7.2.2.2.2.2.2.1 10) (chk (decide (v7.2.2.2.2.2.2.1.toNat < 10)) (some (y13.1,y13.2.1,y13.2.2.1,y13.2.2.2.1.set (v7.2.2.2.2.2.2.1.toNat) true,y13.2.2.2.2.1,()))))) (br (v7.1==8) (br b4 (chk (inB v7.2.2.2.2.2.2.1 10) (chk (decide (v7.2.2.2.2.2.2.1.toNat < 10)) (some (b2,b3,b5.getD (v7.2.2.2.2.2.2.1.toNat) (Ty.dflt .bool),b5,true,())))) (some (b2,b3,false,b5,true,()))) (some (b2,b3,b4,b5,b6,())))))) (br (v7.1==5) (ob (eZ (v7.2.2.1,b2,b3,b4,b5,b6,())) fun y14 =>ob (eZ (v7.2.2.2.1,y14.1,y14.2.1,y14.2.2.1,y14.2.2.2.1,y14.2.2.2.2.1,())) fun y15 =>some (y15.1,y15.2.1,y15.2.2.1,y15.2.2.2.1,y15.2.2.2.2.1,())) (br (v7.1==6) (ob (eZ (v7.2.2.1,b2,b3,b4,b5,b6,())) fun y16 =>some (y16.1,y16.2.1,y16.2.2.1,y16.2.2.2.1,y16.2.2.2.2.1,())) (br (v7.1==7) (let v17:Int:=IntKind.wrap .i64 (b3+1)
 br b4 (ob (eZ (v7.2.2.1,b2,v17,(v7.2.2.2.2.2.2.1==v17),b5,b6,())) fun y18 =>chk (inB v7.2.2.2.2.2.2.1 10) (chk (decide (v7.2.2.2.2.2.2.1.toNat < 10)) (some (y18.1,y18.2.1,y18.2.2.1,y18.2.2.2.1.set (v7.2.2.2.2.2.2.1.toNat) true,y18.2.2.2.2.1,())))) (ob (eZ (v7.2.2.1,b2,v17,false,b5,b6,())) fun y19 =>chk (inB v7.2.2.2.2.2.2.1 10) (chk (decide (v7.2.2.2.2.2.2.1.toNat < 10)) (some (y19.1,y19.2.1,y19.2.2.1,y19.2.2.2.1.set (v7.2.2.2.2.2.2.1.toNat) true,y19.2.2.2.2.1,()))))) (br (v7.1==8) (br b4 (chk (inB v7.2.2.2.2.2.2.1 10) (chk (decide (v7.2.2.2.2.2.2.1.toNat < 10)) (some (b2,b3,b5.getD (v7.2.2.2.2.2.2.1.toNat) (Ty.dflt .bool),b5,true,())))) (some (b2,b3,false,b5,true,()))) (some (b2,b3,b4,b5,b6,())))))))
def oP (n:Nat):(Int×List (NdT)×Int×Bool×List (Bool)×Bool×Unit)->Option (List (NdT)×Int×Bool×List (Bool)×Bool×Unit) :=Wi (fun n r x=>eU n r x) n
def Iz (n:Nat) (x:List (NdT)):Option (Int×Bool×Bool) :=let l_0:=x
 let v1:Int:=IntKind.wrap .i64 ((l_0.length:Int) - 1)
 ob (oP n (v1,l_0,0,true,[false,false,false,false,false,false,false,false,false,false],false,())) fun y2 =>some (y2.2.1,y2.2.2.2.2.1,y2.2.2.1)
def Dl (n:Nat) (x:List (NdT)):Option (Int×Bool×Bool) :=let l_0:=x
 br ((l_0.length:Int)==0) (some (0,false,false)) (br (decide ((l_0.length:Int) > 120)) (some (0,false,false)) (ob (zC n l_0) fun y1 =>br (!y1) (some (0,false,false)) (ob (Iz n l_0) fun y2 =>br (!y2.2.2) (some (0,false,false)) (some (y2.1,y2.2.1,true)))))
def Er (n:Nat) (x:List (NdT)):Option (Bool) :=let l_0:=x
 ob (Dl n l_0) fun y1 =>some y1.2.2
def Oo (n:Nat) (x:Int):Option (List UInt8) :=let b_0:=x
 br (b_0==10) (some [92,110]) (ob (strings_IndexByte n ([46,91,92,42,94,36],b_0)) fun y1 =>br (decide (y1≥0)) (chk (decide ([92].length+(fZ [b_0]).length<=aG)) (some ([92]++(fZ [b_0])))) (some (fZ [b_0])))
def wT (n:Nat) (x:List (Int)×Int):Option (Bool) :=let s_0:=x.1
 let b_1:=x.2
 chk (decide (0<=6)) (chk (inB (pO .u8 b_1 6) 4) (chk (decide ((pO .u8 b_1 6).toNat < 4)) (let v1:Int:=s_0.getD ((pO .u8 b_1 6).toNat) (Ty.dflt (.int .u64))
 chk (decide (0<=fE .u8 .and b_1 63)) (let v2:Int:=pO .u64 v1 (fE .u8 .and b_1 63)
 some ((fE .u64 .and v2 1)==1)))))
def zD (n:Nat) (g0:List UInt8×Int×Int×List (List UInt8)×Unit->Option (List (List UInt8))) (x1:List UInt8×Int×Int×List (List UInt8)×Unit):Option (List (List UInt8)) :=let s_2:=x1.1
 let yEz:=x1.2.1
 let rR:=x1.2.2.1
 let Ab:=x1.2.2.2.1
 br (decide (rR<yEz)) (let v6:Int:=((Ab.length:Nat):Int)
 let v7:Int:=IntKind.wrap .i64 (v6 - 1)
 br (decide (v7≥0)) (chk (inB rR s_2.length) (let v8:Int:=((aR 0 s_2 rR).toNat:Int)
 let v9:Int:=IntKind.wrap .i64 (rR - 1)
 chk (inB v9 s_2.length) (let v10:Int:=((aR 0 s_2 v9).toNat:Int)
 let v11:Int:=IntKind.wrap .u8 (v10+1)
 br (v8==v11) (chk ((inB v7 (Ab.length)&&decide (0+(Ab.length)<=Ab.length))) (chk (decide (0+v7.toNat<Ab.length)) (let v12:List UInt8:=Ab.getD (0+v7.toNat) (Ty.dflt .str)
 let v13:Int:=IntKind.wrap .i64 (rR+1)
 chk ((decide (0<=v13)&&decide (v13<=(s_2.length:Int))&&(decide (0<=rR)&&decide (rR<=v13)))) (let v14:List UInt8:=(s_2.take v13.toNat).drop rR.toNat
 chk (decide (v12.length+v14.length<=aG)) (chk ((inB v7 (Ab.length)&&decide (0+(Ab.length)<=Ab.length))) (chk (decide (0+v7.toNat<Ab.length)) (let r15:List (List UInt8):=Ab.set (0+v7.toNat) (v12++v14)
 let v16:Int:=IntKind.wrap .i64 (rR+1)
 g0 (s_2,yEz,v16,r15,())))))))) (let v17:Int:=IntKind.wrap .i64 (rR+1)
 chk ((decide (0<=v17)&&decide (v17<=(s_2.length:Int))&&(decide (0<=rR)&&decide (rR<=v17)))) (let v18:List UInt8:=(s_2.take v17.toNat).drop rR.toNat
 chk (Nat.ble ((Ab.length+([v18]:List (List UInt8)).length) * 16) room) (let v19:Int:=IntKind.wrap .i64 (rR+1)
 g0 (s_2,yEz,v19,Ab++[v18],()))))))) (let v20:Int:=IntKind.wrap .i64 (rR+1)
 chk ((decide (0<=v20)&&decide (v20<=(s_2.length:Int))&&(decide (0<=rR)&&decide (rR<=v20)))) (let v21:List UInt8:=(s_2.take v20.toNat).drop rR.toNat
 chk (Nat.ble ((Ab.length+([v21]:List (List UInt8)).length) * 16) room) (let v22:Int:=IntKind.wrap .i64 (rR+1)
 g0 (s_2,yEz,v22,Ab++[v21],()))))) (some Ab)
def Oq (n:Nat) (x:List UInt8):Option (List (List UInt8)) :=let s_0:=x
 fix (zD n) n (s_0,(s_0.length:Int),0,[],())
def qD (n:Nat) (g2:List UInt8×Int×Int×List (Int)×List (List UInt8)×Unit->Option (List UInt8)) (x35:List UInt8×Int×Int×List (Int)×List (List UInt8)×Unit):Option (List UInt8) :=let Sg:=x35.1
 let Uf:=x35.2.1
 let Es:=x35.2.2.1
 let b39:=x35.2.2.2.1
 let Ja:=x35.2.2.2.2.1
 br (decide (Es<Uf)) (chk ((inB Es (Ja.length)&&decide (0+(Ja.length)<=Ja.length))) (chk (decide (0+Es.toNat<Ja.length)) (let v41:List UInt8:=Ja.getD (0+Es.toNat) (Ty.dflt .str)
 chk (inB 0 v41.length) (let v42:Int:=((aR 0 v41 0).toNat:Int)
 ob (wT n (b39,v42)) fun y43 =>br y43 (br (v41==[10]) (chk (decide (Sg.length+([92,110]:List UInt8).length<=aG)) (let v44:Int:=IntKind.wrap .i64 (Es+1)
 g2 (Sg++[92,110],Uf,v44,b39,Ja,()))) (chk (inB 0 v41.length) (let v45:Int:=((aR 0 v41 0).toNat:Int)
 ob (wT n (b39,v45)) fun y46 =>br y46 (chk (decide (Sg.length+v41.length<=aG)) (let v47:Int:=IntKind.wrap .i64 (Es+1)
 g2 (Sg++v41,Uf,v47,b39,Ja,()))) (let v48:Int:=IntKind.wrap .i64 (Es+1)
 g2 (Sg,Uf,v48,b39,Ja,()))))) (chk (inB 0 v41.length) (let v49:Int:=((aR 0 v41 0).toNat:Int)
 ob (wT n (b39,v49)) fun y50 =>br y50 (chk (decide (Sg.length+v41.length<=aG)) (let v51:Int:=IntKind.wrap .i64 (Es+1)
 g2 (Sg++v41,Uf,v51,b39,Ja,()))) (let v52:Int:=IntKind.wrap .i64 (Es+1)
 g2 (Sg,Uf,v52,b39,Ja,())))))))) (chk (decide (Sg.length+([93]:List UInt8).length<=aG)) (some (Sg++[93])))
def uM (n:Nat) (g1:List UInt8×List (List UInt8)×Int×Int×List (Int)×Unit->Option (List UInt8)) (x22:List UInt8×List (List UInt8)×Int×Int×List (Int)×Unit):Option (List UInt8) :=let zWb:=x22.1
 let zKm:=x22.2.1
 let zWc:=x22.2.2.1
 let zAn:=x22.2.2.2.1
 let b27:=x22.2.2.2.2.1
 br (decide (zAn<zWc)) (chk (inB zAn zKm.length) (let v28:List UInt8:=aR (Ty.dflt .str) zKm zAn
 br (decide ((v28.length:Int) > 2)) (chk ((decide (0<=(1:Int))&&decide ((1:Int)<=(v28.length:Int)))) (chk (decide ((v28.take (1:Int).toNat).length+([45]:List UInt8).length<=aG)) (let v29:List UInt8:=(v28.take (1:Int).toNat)++[45]
 let v30:Int:=IntKind.wrap .i64 ((v28.length:Int) - 1)
 chk ((decide (0<=v30)&&decide (v30<=(v28.length:Int)))) (chk (decide (v29.length+(v28.drop v30.toNat).length<=aG)) (let v31:List UInt8:=v29++(v28.drop v30.toNat)
 chk (decide (zWb.length+v31.length<=aG)) (let v32:Int:=IntKind.wrap .i64 (zAn+1)
 g1 (zWb++v31,zKm,zWc,v32,b27,()))))))) (chk (decide (zWb.length+v28.length<=aG)) (let v33:Int:=IntKind.wrap .i64 (zAn+1)
 g1 (zWb++v28,zKm,zWc,v33,b27,()))))) (let v34:Int:=(([[10],[91],[92],[94],[45]].length:Nat):Int)
 fix (qD n) n (zWb,v34,0,b27,[[10],[91],[92],[94],[45]],()))
def uN (n:Nat) (g0:List UInt8×List (Int)×Int×Int×List (Int)×List (Int)×Unit->Option (List UInt8)) (x10:List UInt8×List (Int)×Int×Int×List (Int)×List (Int)×Unit):Option (List UInt8) :=let yMq:=x10.1
 let zKn:=x10.2.1
 let zWd:=x10.2.2.1
 let zAo:=x10.2.2.2.1
 let b15:=x10.2.2.2.2.1
 let Rc:=x10.2.2.2.2.2.1
 br (decide (zAo<zWd)) (chk (inB zAo zKn.length) (let v17:Int:=aR (Ty.dflt (.int .u8)) zKn zAo
 ob (strings_IndexByte n ([93,91,92,94,45,10],v17)) fun y18 =>br (decide (y18 < 0)) (chk (Nat.ble ((Rc.length+([v17]:List (Int)).length) * 1) room) (let v19:Int:=IntKind.wrap .i64 (zAo+1)
 g0 (yMq,zKn,zWd,v19,b15,Rc++[v17],()))) (let v20:Int:=IntKind.wrap .i64 (zAo+1)
 g0 (yMq,zKn,zWd,v20,b15,Rc,())))) (ob (Oq n (fZ Rc)) fun y21 =>fix (uM n) n (yMq,y21,(y21.length:Int),0,b15,()))
def qE (n:Nat) (x5:List UInt8×List UInt8×List (Int)×Unit):Option (List UInt8) :=let l_6:=x5.1
 let b_7:=x5.2.1
 let b8:=x5.2.2.1
 chk (Nat.ble l_6.length room) (let v9:Int:=((bN l_6).length:Int)
 fix (uN n) n (b_7,bN l_6,v9,0,b8,[],()))
def Hr (n:Nat) (x:List (Int)):Option (List UInt8) :=let s_0:=x
 ob (sF n s_0) fun y1 =>br ((y1.length:Int)==0) (some []) (br ((y1.length:Int)==1) (chk (inB 0 y1.length) (let v2:Int:=((aR 0 y1 0).toNat:Int)
 ob (Oo n v2) fun y3 =>some y3)) (br ((y1.length:Int)==256) (some [46]) (br (y1==[45,94]) (some [91,45,94,93]) (ob (wT n (s_0,93)) fun y4 =>br y4 (chk (decide ([91].length+([93]:List UInt8).length<=aG)) (jn (qE n) (y1,[91]++[93],s_0,()))) (jn (qE n) (y1,[91],s_0,()))))))
def Br (n:Nat) (g0:List (NdT)×Int×Int×List (List UInt8)×Unit->Option (List UInt8)) (g1:Int×List UInt8×List (NdT)×Int×Int×List (Int)×Int×Int×List (List UInt8)×Unit->Option (List UInt8)) (x16:Int×List UInt8×List (NdT)×Int×Int×List (Int)×Int×Int×List (List UInt8)×Unit):Option (List UInt8) :=let zOa:=x16.1
 let zWe:=x16.2.1
 let yIi:=x16.2.2.1
 let yIj:=x16.2.2.2.1
 let yIk:=x16.2.2.2.2.1
 let zWf:=x16.2.2.2.2.2.1
 let yIl:=x16.2.2.2.2.2.2.1
 let zKo:=x16.2.2.2.2.2.2.2.1
 let Et:=x16.2.2.2.2.2.2.2.2.1
 br (decide (zKo<yIl)) (chk (inB zKo zWf.length) (let v26:Int:=aR (Ty.dflt (.int .u8)) zWf zKo
 chk ((!decide (16 = 0))) (let v27:Int:=IntKind.wrap .u64 (Int.tdiv (IntKind.wrap .u64 v26) 16)
 ob (lG n (v27,16)) fun y28 =>chk ((!decide (16 = 0))) (let v29:Int:=Int.tmod (IntKind.wrap .u64 v26) 16
 ob (lG n (v29,16)) fun y30 =>chk (decide (y28.length+y30.length<=aG)) (chk (decide (zWe.length+(y28++y30).length<=aG)) (let v31:Int:=IntKind.wrap .i64 (zKo+1)
 g1 (zOa,zWe++(y28++y30),yIi,yIj,yIk,zWf,yIl,v31,Et,()))))))) (chk (decide (zWe.length+([93]:List UInt8).length<=aG)) (chk ((decide (0<=zOa)&&decide (zOa<=(Et.length:Int)))) (chk ((Nat.ble (zOa.toNat) Et.length&&Nat.ble (((zOa.toNat)+([zWe++[93]]:List (List UInt8)).length) * 16) room)) (let r32:List (List UInt8):=Et.take (zOa.toNat)++[zWe++[93]]
 let v33:Int:=IntKind.wrap .i64 (yIk+1)
 g0 (yIi,yIj,v33,r32,())))))
def jB (n:Nat) (g0:List (NdT)×Int×Int×List (List UInt8)×Unit->Option (List UInt8)) (x2:List (NdT)×Int×Int×List (List UInt8)×Unit):Option (List UInt8) :=let Bt:=x2.1
 let Eu:=x2.2.1
 let zF:=x2.2.2.1
 let bE:=x2.2.2.2.1
 br (decide (zF<Eu)) (chk (inB zF Bt.length) (let v7:Int×List (Int)×Int×Int×Int×Int×Int×Unit:=aR (Ty.dflt aD) Bt zF
 let v8:Int:=((bE.length:Nat):Int)
 ob (jQ n v7) fun y9 =>let v10:Int:=IntKind.wrap .i64 (v8-y9)
 chk ((decide (0<=v10)&&decide (v10<=(bE.length:Int)))) (chk ((Nat.ble ((0+(v10.toNat))+((bE.length)-(v10.toNat))) bE.length&&true)) (ob (strings_Join n ((bE.drop (0+(v10.toNat))).take ((bE.length)-(v10.toNat)),[])) fun y11 =>br (v7.1==0) (chk ((decide (0<=v10)&&decide (v10<=(bE.length:Int)))) (chk ((Nat.ble (v10.toNat) bE.length&&Nat.ble (((v10.toNat)+([[101]]:List (List UInt8)).length) * 16) room)) (let r12:List (List UInt8):=bE.take (v10.toNat)++[[101]]
 let v13:Int:=IntKind.wrap .i64 (zF+1)
 g0 (Bt,Eu,v13,r12,())))) (br (v7.1==1) (ob (sF n v7.2.1) fun y14 =>chk (Nat.ble y14.length room) (let v15:Int:=((bN y14).length:Int)
 fix (Br n g0) n (v10,[91],Bt,Eu,zF,bN y14,v15,0,bE,()))) (br (v7.1==2) (chk ((decide (0<=v10)&&decide (v10<=(bE.length:Int)))) (chk ((Nat.ble (v10.toNat) bE.length&&Nat.ble (((v10.toNat)+([[94]]:List (List UInt8)).length) * 16) room)) (let r34:List (List UInt8):=bE.take (v10.toNat)++[[94]]
 let v35:Int:=IntKind.wrap .i64 (zF+1)
 g0 (Bt,Eu,v35,r34,())))) (br (v7.1==3) (chk ((decide (0<=v10)&&decide (v10<=(bE.length:Int)))) (chk ((Nat.ble (v10.toNat) bE.length&&Nat.ble (((v10.toNat)+([[36]]:List (List UInt8)).length) * 16) room)) (let r36:List (List UInt8):=bE.take (v10.toNat)++[[36]]
 let v37:Int:=IntKind.wrap .i64 (zF+1)
 g0 (Bt,Eu,v37,r36,())))) (br (v7.1==4) (chk (decide ([38].length+y11.length<=aG)) (chk ((decide (0<=v10)&&decide (v10<=(bE.length:Int)))) (chk ((Nat.ble (v10.toNat) bE.length&&Nat.ble (((v10.toNat)+([[38]++y11]:List (List UInt8)).length) * 16) room)) (let r38:List (List UInt8):=bE.take (v10.toNat)++[[38]++y11]
 let v39:Int:=IntKind.wrap .i64 (zF+1)
 g0 (Bt,Eu,v39,r38,()))))) (br (v7.1==5) (chk (decide ([124].length+y11.length<=aG)) (chk ((decide (0<=v10)&&decide (v10<=(bE.length:Int)))) (chk ((Nat.ble (v10.toNat) bE.length&&Nat.ble (((v10.toNat)+([[124]++y11]:List (List UInt8)).length) * 16) room)) (let r40:List (List UInt8):=bE.take (v10.toNat)++[[124]++y11]
 let v41:Int:=IntKind.wrap .i64 (zF+1)
 g0 (Bt,Eu,v41,r40,()))))) (br (v7.1==6) (ob (strconv_Itoa n v7.2.2.2.2.1) fun y42 =>chk (decide ([42].length+y42.length<=aG)) (chk (decide (([42]++y42).length+([44]:List UInt8).length<=aG)) (ob (strconv_Itoa n v7.2.2.2.2.2.1) fun y43 =>chk (decide ((([42]++y42)++[44]).length+y43.length<=aG)) (let v44:List UInt8:=(([42]++y42)++[44])++y43
 chk (decide (v44.length+([59]:List UInt8).length<=aG)) (chk (decide ((v44++[59]).length+y11.length<=aG)) (chk ((decide (0<=v10)&&decide (v10<=(bE.length:Int)))) (chk ((Nat.ble (v10.toNat) bE.length&&Nat.ble (((v10.toNat)+([(v44++[59])++y11]:List (List UInt8)).length) * 16) room)) (let r45:List (List UInt8):=bE.take (v10.toNat)++[(v44++[59])++y11]
 let v46:Int:=IntKind.wrap .i64 (zF+1)
 g0 (Bt,Eu,v46,r45,()))))))))) (br (v7.1==7) (chk (decide ([40].length+y11.length<=aG)) (chk (decide (([40]++y11).length+([41]:List UInt8).length<=aG)) (chk ((decide (0<=v10)&&decide (v10<=(bE.length:Int)))) (chk ((Nat.ble (v10.toNat) bE.length&&Nat.ble (((v10.toNat)+([([40]++y11)++[41]]:List (List UInt8)).length) * 16) room)) (let r47:List (List UInt8):=bE.take (v10.toNat)++[([40]++y11)++[41]]
 let v48:Int:=IntKind.wrap .i64 (zF+1)
 g0 (Bt,Eu,v48,r47,())))))) (br (v7.1==8) (ob (strconv_Itoa n v7.2.2.2.2.2.2.1) fun y49 =>chk (decide ([92].length+y49.length<=aG)) (chk ((decide (0<=v10)&&decide (v10<=(bE.length:Int)))) (chk ((Nat.ble (v10.toNat) bE.length&&Nat.ble (((v10.toNat)+([[92]++y49]:List (List UInt8)).length) * 16) room)) (let r50:List (List UInt8):=bE.take (v10.toNat)++[[92]++y49]
 let v51:Int:=IntKind.wrap .i64 (zF+1)
 g0 (Bt,Eu,v51,r50,()))))) (chk ((decide (0<=v10)&&decide (v10<=(bE.length:Int)))) (chk ((Nat.ble (v10.toNat) bE.length&&Nat.ble (((v10.toNat)+([[]]:List (List UInt8)).length) * 16) room)) (let r52:List (List UInt8):=bE.take (v10.toNat)++[[]]
 let v53:Int:=IntKind.wrap .i64 (zF+1)
 g0 (Bt,Eu,v53,r52,())))))))))))))))) (chk ((inB 0 (bE.length)&&decide (0+(bE.length)<=bE.length))) (chk (decide (0+(0:Int).toNat<bE.length)) (let v54:List UInt8:=bE.getD (0+(0:Int).toNat) (Ty.dflt .str)
 some v54)))
def Np (n:Nat) (x:List (NdT)):Option (List UInt8) :=let l_0:=x
 ob (Er n l_0) fun y1 =>br (!y1) (some []) (fix (jB n) n (l_0,(l_0.length:Int),0,[],()))
def zAp (n:Nat) (x:List (NdT)):Option (Int) :=let l_0:=x
 ob (Dl n l_0) fun y1 =>some y1.1
def xL (n:Nat) (g0:Int×List (Bool)×List (Bool)×Unit->Option (List (Bool))) (x1:Int×List (Bool)×List (Bool)×Unit):Option (List (Bool)) :=let i_2:=x1.1
 let b3:=x1.2.1
 let b4:=x1.2.2.1
 br (decide (i_2 < 256)) (chk (inB i_2 256) (chk (decide (i_2.toNat < 256)) (chk (inB i_2 256) (chk (decide (i_2.toNat < 256)) (let v5:Int:=IntKind.wrap .i64 (i_2+1)
 g0 (v5,b3.set (i_2.toNat) (!(b3.getD (i_2.toNat) (Ty.dflt .bool))),b4,())))))) (some b3)
def Kc (n:Nat) (x:List (Bool)):Option (List (Bool)) :=let a_0:=x
 fix (xL n) n (0,a_0,(List.replicate 256 false),())
def tZ (n:Nat) (g0:Int×List (Bool)×List (Int)×Unit->Option (List UInt8)) (x1:Int×List (Bool)×List (Int)×Unit):Option (List UInt8) :=let i_2:=x1.1
 let b3:=x1.2.1
 let Ky:=x1.2.2.1
 br (decide (i_2 < 256)) (chk (inB i_2 256) (chk (decide (i_2.toNat < 256)) (br (b3.getD (i_2.toNat) (Ty.dflt .bool)) (chk (Nat.ble ((Ky.length+([IntKind.wrap .u8 i_2]:List (Int)).length) * 1) room) (let r5:List (Int):=Ky++[IntKind.wrap .u8 i_2]
 let v6:Int:=IntKind.wrap .i64 (i_2+1)
 g0 (v6,b3,r5,()))) (let v7:Int:=IntKind.wrap .i64 (i_2+1)
 g0 (v7,b3,Ky,()))))) (some (fZ Ky))
def nO (n:Nat) (x:List (Bool)):Option (List UInt8) :=let a_0:=x
 fix (tZ n) n (0,a_0,[],())
def vM (n:Nat) (x:List (Bool)):Option (Int) :=let a_0:=x
 ob (nO n a_0) fun y1 =>some (y1.length:Int)
def pE (n:Nat) (g0:Int×Int×List (Bool)×List (Bool)×Unit->Option (List (Bool))) (x1:Int×Int×List (Bool)×List (Bool)×Unit):Option (List (Bool)) :=let b_2:=x1.1
 let i_3:=x1.2.1
 let b4:=x1.2.2.1
 let b5:=x1.2.2.2.1
 br (decide (i_3<=(IntKind.wrap .i64 b_2))) (chk (inB i_3 256) (chk (decide (i_3.toNat < 256)) (let v6:Int:=IntKind.wrap .i64 (i_3+1)
 g0 (b_2,v6,b4,b5.set (i_3.toNat) true,())))) (some b5)
def dR (n:Nat) (x:Int×Int):Option (List (Bool)) :=let a_0:=x.1
 let b_1:=x.2
 fix (pE n) n (b_1,IntKind.wrap .i64 a_0,(List.replicate 256 false),(List.replicate 256 false),())
def zG (n:Nat) (g0:Int×List (Bool)×List (Bool)×List (Bool)×Unit->Option (List (Bool))) (x1:Int×List (Bool)×List (Bool)×List (Bool)×Unit):Option (List (Bool)) :=let i_2:=x1.1
 let b3:=x1.2.1
 let b4:=x1.2.2.1
 let b5:=x1.2.2.2.1
 br (decide (i_2 < 256)) (chk (inB i_2 256) (chk (decide (i_2.toNat < 256)) (br (b3.getD (i_2.toNat) (Ty.dflt .bool)) (chk (inB i_2 256) (chk (decide (i_2.toNat < 256)) (let v6:Int:=IntKind.wrap .i64 (i_2+1)
 g0 (v6,b3.set (i_2.toNat) true,b4,b5,())))) (chk (inB i_2 256) (chk (decide (i_2.toNat < 256)) (chk (inB i_2 256) (chk (decide (i_2.toNat < 256)) (let v7:Int:=IntKind.wrap .i64 (i_2+1)
 g0 (v7,b3.set (i_2.toNat) (b4.getD (i_2.toNat) (Ty.dflt .bool)),b4,b5,()))))))))) (some b3)
def lC (n:Nat) (x:List (Bool)×List (Bool)):Option (List (Bool)) :=let a_0:=x.1
 let b_1:=x.2
 fix (zG n) n (0,a_0,b_1,(List.replicate 256 false),())
def zH (n:Nat) (g0:List UInt8×Int×List (Bool)×List (Bool)×Unit->Option (List (Bool))) (x1:List UInt8×Int×List (Bool)×List (Bool)×Unit):Option (List (Bool)) :=let s_2:=x1.1
 let i_3:=x1.2.1
 let b4:=x1.2.2.1
 let b5:=x1.2.2.2.1
 br (decide (i_3<(s_2.length:Int))) (chk (inB i_3 s_2.length) (let v6:Int:=((aR 0 s_2 i_3).toNat:Int)
 chk (inB v6 256) (chk (decide (v6.toNat < 256)) (let v7:Int:=IntKind.wrap .i64 (i_3+1)
 g0 (s_2,v7,b4,b5.set (v6.toNat) true,()))))) (some b5)
def qO (n:Nat) (x:List UInt8):Option (List (Bool)) :=let s_0:=x
 fix (zH n) n (s_0,0,(List.replicate 256 false),(List.replicate 256 false),())
def pF (n:Nat) (g0:Int×List (Bool)×List (Bool)×List (Bool)×Unit->Option (List (Bool)×Bool)) (x21:Int×List (Bool)×List (Bool)×List (Bool)×Unit):Option (List (Bool)×Bool) :=let Cj:=x21.1
 let b23:=x21.2.1
 let b24:=x21.2.2.1
 let b25:=x21.2.2.2.1
 br (decide (Cj < 256)) (chk (inB Cj 256) (chk (decide (Cj.toNat < 256)) (br (b25.getD (Cj.toNat) (Ty.dflt .bool)) (chk (inB Cj 256) (chk (decide (Cj.toNat < 256)) (chk (inB Cj 256) (chk (decide (Cj.toNat < 256)) (let v26:Int:=IntKind.wrap .i64 (Cj+1)
 g0 (v26,b23,b24,b25.set (Cj.toNat) (!(b24.getD (Cj.toNat) (Ty.dflt .bool))),())))))) (chk (inB Cj 256) (chk (decide (Cj.toNat < 256)) (let v27:Int:=IntKind.wrap .i64 (Cj+1)
 g0 (v27,b23,b24,b25.set (Cj.toNat) false,()))))))) (some (b25,true))
def Au (n:Nat) (x:List UInt8):Option (List (Bool)×Bool) :=let jA:=x
 ob (dR n (65,90)) fun y1 =>ob (dR n (97,122)) fun y2 =>ob (dR n (48,57)) fun y3 =>ob (lC n (y1,y2)) fun y4 =>ob (lC n (y4,y3)) fun y5 =>br (jA==[117,112,112,101,114]) (some (y1,true)) (br (jA==[108,111,119,101,114]) (some (y2,true)) (br (jA==[97,108,112,104,97]) (ob (lC n (y1,y2)) fun y6 =>some (y6,true)) (br (jA==[100,105,103,105,116]) (some (y3,true)) (br (jA==[97,108,110,117,109]) (some (y5,true)) (br (jA==[120,100,105,103,105,116]) (ob (dR n (65,70)) fun y7 =>ob (dR n (97,102)) fun y8 =>ob (lC n (y7,y8)) fun y9 =>ob (lC n (y3,y9)) fun y10 =>some (y10,true)) (br (jA==[98,108,97,110,107]) (ob (qO n [9,32]) fun y11 =>some (y11,true)) (br (jA==[115,112,97,99,101]) (ob (dR n (9,13)) fun y12 =>ob (qO n [32]) fun y13 =>ob (lC n (y12,y13)) fun y14 =>some (y14,true)) (br (jA==[99,110,116,114,108]) (ob (dR n (0,31)) fun y15 =>ob (dR n (127,127)) fun y16 =>ob (lC n (y15,y16)) fun y17 =>some (y17,true)) (br (jA==[103,114,97,112,104]) (ob (dR n (33,126)) fun y18 =>some (y18,true)) (br (jA==[112,114,105,110,116]) (ob (dR n (32,126)) fun y19 =>some (y19,true)) (br (jA==[112,117,110,99,116]) (ob (dR n (33,126)) fun y20 =>fix (pF n) n (0,(List.replicate 256 false),y5,y20,())) (some ((List.replicate 256 false),false)))))))))))))
def sH (n:Nat) (x41:Bool×Bool×Int×Int×Unit):Option (Int×Int×Bool) :=let yMr:=x41.1
 let yQl:=x41.2.1
 let zWg:=x41.2.2.1
 let yQm:=x41.2.2.2.1
 br (zWg==45) (br (!yMr) (br (!yQl) (br (yQm != 93) (some (0,0,false)) (some (zWg,1,true))) (some (zWg,1,true))) (some (zWg,1,true))) (some (zWg,1,true))
def oC (n:Nat) (x36:Bool×Bool×Int×Int×Unit):Option (Int×Int×Bool) :=let zHg:=x36.1
 let yBo:=x36.2.1
 let yMs:=x36.2.2.1
 let yBp:=x36.2.2.2.1
 br (yMs==93) (br (!zHg) (some (0,0,false)) (jn (sH n) (zHg,yBo,yMs,yBp,()))) (jn (sH n) (zHg,yBo,yMs,yBp,()))
def oD (n:Nat) (x28:List UInt8×Int×Bool×Bool×Int×Int×Unit):Option (Int×Int×Bool) :=let yZk:=x28.1
 let yZl:=x28.2.1
 let Om:=x28.2.2.1
 let zOb:=x28.2.2.2.1
 let yFa:=x28.2.2.2.2.1
 let zDy:=x28.2.2.2.2.2.1
 br (yFa==92) (br (zDy==110) (let v35:Int:=IntKind.wrap .i64 (yZl+1)
 br (decide (v35<(yZk.length:Int))) (some (10,2,true)) (jn (oC n) (Om,zOb,yFa,zDy,()))) (jn (oC n) (Om,zOb,yFa,zDy,()))) (jn (oC n) (Om,zOb,yFa,zDy,()))
def fI (n:Nat) (x13:List UInt8×Int×Bool×Bool×Int×Int×Bool×Unit):Option (Int×Int×Bool) :=let zAq:=x13.1
 let zWh:=x13.2.1
 let yMt:=x13.2.2.1
 let yQn:=x13.2.2.2.1
 let yZm:=x13.2.2.2.2.1
 let zDz:=x13.2.2.2.2.2.1
 let yTs:=x13.2.2.2.2.2.2.1
 br yTs (br (zDz != 58) (let v21:Int:=IntKind.wrap .i64 (zWh+4)
 br (decide (v21<(zAq.length:Int))) (let v22:Int:=IntKind.wrap .i64 (zWh+3)
 chk (inB v22 zAq.length) (let v23:Int:=((aR 0 zAq v22).toNat:Int)
 br (v23==zDz) (let v24:Int:=IntKind.wrap .i64 (zWh+4)
 chk (inB v24 zAq.length) (let v25:Int:=((aR 0 zAq v24).toNat:Int)
 br (v25==93) (let v26:Int:=IntKind.wrap .i64 (zWh+2)
 chk (inB v26 zAq.length) (let v27:Int:=((aR 0 zAq v26).toNat:Int)
 some (v27,5,(zDz==46)))) (some (0,0,false)))) (some (0,0,false)))) (some (0,0,false))) (some (0,0,false))) (jn (oD n) (zAq,zWh,yMt,yQn,yZm,zDz,()))
def sI (n:Nat) (x5:List UInt8×Int×Bool×Bool×Int×Int×Unit):Option (Int×Int×Bool) :=let s_6:=x5.1
 let i_7:=x5.2.1
 let Ug:=x5.2.2.1
 let zAr:=x5.2.2.2.1
 let zOc:=x5.2.2.2.2.1
 let Dm:=x5.2.2.2.2.2.1
 br (zOc==91) (br (Dm==46) (let v12:Int:=IntKind.wrap .i64 (i_7+1)
 jn (fI n) (s_6,i_7,Ug,zAr,zOc,Dm,(decide (v12<(s_6.length:Int))),())) (br (Dm==61) (let v46:Int:=IntKind.wrap .i64 (i_7+1)
 jn (fI n) (s_6,i_7,Ug,zAr,zOc,Dm,(decide (v46<(s_6.length:Int))),())) (br (Dm==58) (let v47:Int:=IntKind.wrap .i64 (i_7+1)
 jn (fI n) (s_6,i_7,Ug,zAr,zOc,Dm,(decide (v47<(s_6.length:Int))),())) (jn (fI n) (s_6,i_7,Ug,zAr,zOc,Dm,false,()))))) (jn (fI n) (s_6,i_7,Ug,zAr,zOc,Dm,false,()))
def qP (n:Nat) (x:List UInt8×Int×Bool×Bool):Option (Int×Int×Bool) :=let s_0:=x.1
 let i_1:=x.2.1
 let yBq:=x.2.2.1
 let yIm:=x.2.2.2
 br (decide (i_1≥(s_0.length:Int))) (some (0,0,false)) (chk (inB i_1 s_0.length) (let v1:Int:=((aR 0 s_0 i_1).toNat:Int)
 let v2:Int:=IntKind.wrap .i64 (i_1+1)
 br (decide (v2<(s_0.length:Int))) (let v3:Int:=IntKind.wrap .i64 (i_1+1)
 chk (inB v3 s_0.length) (let v4:Int:=((aR 0 s_0 v3).toNat:Int)
 jn (sI n) (s_0,i_1,yBq,yIm,v1,v4,()))) (jn (sI n) (s_0,i_1,yBq,yIm,v1,0,()))))
def rC (n:Nat) (x31:Int×List (Bool)×List (Bool)×List (Bool)×Unit):Option (List (Bool)×Int×Int) :=let yZn:=x31.1
 let b33:=x31.2.1
 let b34:=x31.2.2.1
 let b35:=x31.2.2.2.1
 ob (vM n b35) fun y36 =>br (y36==0) (some (b34,0,42)) (some (b35,yZn,0))
def wY (n:Nat) (x24:Int×Bool×List (Bool)×List (Bool)×List (Bool)×Unit):Option (List (Bool)×Int×Int) :=let yTt:=x24.1
 let yTu:=x24.2.1
 let b27:=x24.2.2.1
 let b28:=x24.2.2.2.1
 let b29:=x24.2.2.2.2.1
 br yTu (ob (Kc n b29) fun y30 =>jn (rC n) (yTt,b27,b28,y30,())) (jn (rC n) (yTt,b27,b28,b29,()))
def kM (n:Nat) (g0:List UInt8×Int×Bool×Bool×List (Bool)×List (Bool)×List (Bool)×Unit->Option (List (Bool)×Int×Int)) (x70:List UInt8×Int×Bool×Int×List (Bool)×List (Bool)×List (Bool)×Unit):Option (List (Bool)×Int×Int) :=let yFb:=x70.1
 let yZo:=x70.2.1
 let yTv:=x70.2.2.1
 let zOd:=x70.2.2.2.1
 let b75:=x70.2.2.2.2.1
 let b76:=x70.2.2.2.2.2.1
 let b77:=x70.2.2.2.2.2.2.1
 let v78:Int:=IntKind.wrap .i64 (zOd+1)
 br (decide (v78≥(yFb.length:Int))) (some (b76,0,42)) (let v79:Int:=IntKind.wrap .i64 (yZo+2)
 chk ((decide (0<=zOd)&&decide (zOd<=(yFb.length:Int))&&(decide (0<=v79)&&decide (v79<=zOd)))) (let v80:List UInt8:=(yFb.take zOd.toNat).drop v79.toNat
 ob (Au n v80) fun y81 =>br (!y81.2) (some (b76,0,42)) (ob (lC n (b77,y81.1)) fun y82 =>let v83:Int:=IntKind.wrap .i64 (zOd+2)
 g0 (yFb,v83,yTv,false,b75,b76,y82,()))))
def rD (n:Nat) (g0:List UInt8×Int×Bool×Bool×List (Bool)×List (Bool)×List (Bool)×Unit->Option (List (Bool)×Int×Int)) (g1:List UInt8×Int×Bool×Int×List (Bool)×List (Bool)×List (Bool)×Unit->Option (List (Bool)×Int×Int)) (x58:List UInt8×Int×Bool×Int×List (Bool)×List (Bool)×List (Bool)×Unit):Option (List (Bool)×Int×Int) :=let zOe:=x58.1
 let yMu:=x58.2.1
 let zWi:=x58.2.2.1
 let zAs:=x58.2.2.2.1
 let b63:=x58.2.2.2.2.1
 let b64:=x58.2.2.2.2.2.1
 let b65:=x58.2.2.2.2.2.2.1
 let v66:Int:=IntKind.wrap .i64 (zAs+1)
 br (decide (v66<(zOe.length:Int))) (let v67:Int:=IntKind.wrap .i64 (zAs+2)
 chk ((decide (0<=v67)&&decide (v67<=(zOe.length:Int))&&(decide (0<=zAs)&&decide (zAs<=v67)))) (let v68:List UInt8:=(zOe.take v67.toNat).drop zAs.toNat
 br (!(v68==[58,93])) (let v69:Int:=IntKind.wrap .i64 (zAs+1)
 g1 (zOe,yMu,zWi,v69,b63,b64,b65,())) (jn (kM n g0) (zOe,yMu,zWi,zAs,b63,b64,b65,())))) (jn (kM n g0) (zOe,yMu,zWi,zAs,b63,b64,b65,()))
def gN (n:Nat) (g0:List UInt8×Int×Bool×Bool×List (Bool)×List (Bool)×List (Bool)×Unit->Option (List (Bool)×Int×Int)) (x98:List UInt8×Int×Bool×Int×Bool×Int×Bool×List (Bool)×List (Bool)×List (Bool)×Unit):Option (List (Bool)×Int×Int) :=let yMv:=x98.1
 let yFc:=x98.2.1
 let yBr:=x98.2.2.1
 let yFd:=x98.2.2.2.1
 let yQo:=x98.2.2.2.2.1
 let yWt:=x98.2.2.2.2.2.1
 let yMw:=x98.2.2.2.2.2.2.1
 let yTw:=x98.2.2.2.2.2.2.2.1
 let zOf:=x98.2.2.2.2.2.2.2.2.1
 let yTx:=x98.2.2.2.2.2.2.2.2.2.1
 br yMw (let v109:Int:=IntKind.wrap .i64 (yFc+1)
 ob (qP n (yMv,v109,false,true)) fun zWj =>br (zWj.2.1==0) (some (zOf,0,42)) (br (!zWj.2.2) (some (zOf,0,42)) (br (!yQo) (some (zOf,0,42)) (br (decide (zWj.1<yFd)) (some (zOf,0,42)) (let yZp:Int:=IntKind.wrap .i64 (1+zWj.2.1)
 let yZq:Int:=IntKind.wrap .i64 (yFc+yZp)
 ob (dR n (yFd,zWj.1)) fun y113 =>ob (lC n (yTx,y113)) fun y114 =>g0 (yMv,yZq,yBr,false,yTw,zOf,y114,())))))) (ob (dR n (yFd,yWt)) fun y115 =>ob (lC n (yTx,y115)) fun yZr =>g0 (yMv,yFc,yBr,false,yTw,zOf,yZr,()))
def wZ (n:Nat) (g0:List UInt8×Int×Bool×Bool×List (Bool)×List (Bool)×List (Bool)×Unit->Option (List (Bool)×Int×Int)) (x84:List UInt8×Int×Bool×Bool×List (Bool)×List (Bool)×List (Bool)×Unit):Option (List (Bool)×Int×Int) :=let Wp:=x84.1
 let yTy:=x84.2.1
 let zWk:=x84.2.2.1
 let yMx:=x84.2.2.2.1
 let b89:=x84.2.2.2.2.1
 let b90:=x84.2.2.2.2.2.1
 let b91:=x84.2.2.2.2.2.2.1
 ob (qP n (Wp,yTy,yMx,false)) fun y92 =>br (y92.2.1==0) (some (b90,0,42)) (let v93:Int:=IntKind.wrap .i64 (yTy+y92.2.1)
 let v94:Int:=IntKind.wrap .i64 (v93+1)
 br (decide (v94<(Wp.length:Int))) (chk (inB v93 Wp.length) (let v95:Int:=((aR 0 Wp v93).toNat:Int)
 br (v95==45) (let v96:Int:=IntKind.wrap .i64 (v93+1)
 chk (inB v96 Wp.length) (let v97:Int:=((aR 0 Wp v96).toNat:Int)
 jn (gN n g0) (Wp,v93,zWk,y92.1,y92.2.2,y92.1,(v97 != 93),b89,b90,b91,()))) (jn (gN n g0) (Wp,v93,zWk,y92.1,y92.2.2,y92.1,false,b89,b90,b91,())))) (jn (gN n g0) (Wp,v93,zWk,y92.1,y92.2.2,y92.1,false,b89,b90,b91,())))
def rE (n:Nat) (g0:List UInt8×Int×Bool×Bool×List (Bool)×List (Bool)×List (Bool)×Unit->Option (List (Bool)×Int×Int)) (x48:List UInt8×Int×Bool×Bool×Bool×List (Bool)×List (Bool)×List (Bool)×Unit):Option (List (Bool)×Int×Int) :=let yTz:=x48.1
 let yMy:=x48.2.1
 let yIn:=x48.2.2.1
 let yMz:=x48.2.2.2.1
 let yUa:=x48.2.2.2.2.1
 let b54:=x48.2.2.2.2.2.1
 let b55:=x48.2.2.2.2.2.2.1
 let b56:=x48.2.2.2.2.2.2.2.1
 br yUa (let v57:Int:=IntKind.wrap .i64 (yMy+2)
 fix (rD n g0) n (yTz,yMy,yIn,v57,b54,b55,b56,())) (jn (wZ n g0) (yTz,yMy,yIn,yMz,b54,b55,b56,()))
def jH (n:Nat) (g0:List UInt8×Int×Bool×Bool×List (Bool)×List (Bool)×List (Bool)×Unit->Option (List (Bool)×Int×Int)) (x37:List UInt8×Int×Bool×Bool×List (Bool)×List (Bool)×List (Bool)×Unit):Option (List (Bool)×Int×Int) :=let zWl:=x37.1
 let zHh:=x37.2.1
 let yIo:=x37.2.2.1
 let zWm:=x37.2.2.2.1
 let b42:=x37.2.2.2.2.1
 let b43:=x37.2.2.2.2.2.1
 let b44:=x37.2.2.2.2.2.2.1
 let v45:Int:=IntKind.wrap .i64 (zHh+1)
 br (decide (v45<(zWl.length:Int))) (let v46:Int:=IntKind.wrap .i64 (zHh+2)
 chk ((decide (0<=v46)&&decide (v46<=(zWl.length:Int))&&(decide (0<=zHh)&&decide (zHh<=v46)))) (let v47:List UInt8:=(zWl.take v46.toNat).drop zHh.toNat
 jn (rE n g0) (zWl,zHh,yIo,zWm,(v47==[91,58]),b42,b43,b44,()))) (jn (rE n g0) (zWl,zHh,yIo,zWm,false,b42,b43,b44,()))
def rF (n:Nat) (g0:List UInt8×Int×Bool×Bool×List (Bool)×List (Bool)×List (Bool)×Unit->Option (List (Bool)×Int×Int)) (x14:List UInt8×Int×Bool×Bool×List (Bool)×List (Bool)×List (Bool)×Unit):Option (List (Bool)×Int×Int) :=let zOg:=x14.1
 let zHi:=x14.2.1
 let zKp:=x14.2.2.1
 let Wq:=x14.2.2.2.1
 let b19:=x14.2.2.2.2.1
 let b20:=x14.2.2.2.2.2.1
 let b21:=x14.2.2.2.2.2.2.1
 br (decide (zHi<(zOg.length:Int))) (chk (inB zHi zOg.length) (let v22:Int:=((aR 0 zOg zHi).toNat:Int)
 br (v22==93) (br (!Wq) (let v23:Int:=IntKind.wrap .i64 (zHi+1)
 jn (wY n) (v23,zKp,b19,b20,b21,())) (jn (jH n g0) (zOg,zHi,zKp,Wq,b19,b20,b21,()))) (jn (jH n g0) (zOg,zHi,zKp,Wq,b19,b20,b21,())))) (jn (jH n g0) (zOg,zHi,zKp,Wq,b19,b20,b21,()))
def mX (n:Nat) (x8:List UInt8×Int×Bool×List (Bool)×List (Bool)×Unit):Option (List (Bool)×Int×Int) :=let s_9:=x8.1
 let yZs:=x8.2.1
 let yUb:=x8.2.2.1
 let b12:=x8.2.2.2.1
 let b13:=x8.2.2.2.2.1
 fix (rF n) n (s_9,yZs,yUb,true,b12,b13,(List.replicate 256 false),())
def Gr (n:Nat) (x2:List UInt8×List (Bool)×List (Bool)×Unit):Option (List (Bool)×Int×Int) :=let s_3:=x2.1
 let b4:=x2.2.1
 let b5:=x2.2.2.1
 br (decide ((1:Int)<(s_3.length:Int))) (chk (inB 1 s_3.length) (let v6:Int:=((aR 0 s_3 1).toNat:Int)
 br (v6==94) (let v7:Int:=IntKind.wrap .i64 (1+1)
 jn (mX n) (s_3,v7,true,b4,b5,())) (jn (mX n) (s_3,1,false,b4,b5,())))) (jn (mX n) (s_3,1,false,b4,b5,()))
def wJ (n:Nat) (x:List UInt8):Option (List (Bool)×Int×Int) :=let s_0:=x
 br ((s_0.length:Int)==0) (some ((List.replicate 256 false),0,42)) (chk (inB 0 s_0.length) (let v1:Int:=((aR 0 s_0 0).toNat:Int)
 br (v1 != 91) (some ((List.replicate 256 false),0,42)) (jn (Gr n) (s_0,(List.replicate 256 false),(List.replicate 256 false),()))))
def uD (n:Nat) (g0:Int×List (Bool)×List (Int)×List (Int)×Unit->Option (List (Int))) (x1:Int×List (Bool)×List (Int)×List (Int)×Unit):Option (List (Int)) :=let i_2:=x1.1
 let b3:=x1.2.1
 let b4:=x1.2.2.1
 let b5:=x1.2.2.2.1
 br (decide (i_2≥0)) (chk ((!decide (64 = 0))) (let v6:Int:=IntKind.wrap .i64 (Int.tdiv i_2 64)
 chk ((!decide (64 = 0))) (let v7:Int:=IntKind.wrap .i64 (Int.tdiv i_2 64)
 chk (inB v7 4) (chk (decide (v7.toNat < 4)) (let v8:Int:=b5.getD (v7.toNat) (Ty.dflt (.int .u64))
 let v9:Int:=IntKind.wrap .u64 (v8 * 2)
 chk (inB v6 4) (chk (decide (v6.toNat < 4)) (chk (inB i_2 256) (chk (decide (i_2.toNat < 256)) (br (b3.getD (i_2.toNat) (Ty.dflt .bool)) (chk ((!decide (64 = 0))) (let v10:Int:=IntKind.wrap .i64 (Int.tdiv i_2 64)
 chk (inB v10 4) (chk (decide (v10.toNat < 4)) (let v11:Int:=(b5.set (v6.toNat) v9).getD (v10.toNat) (Ty.dflt (.int .u64))
 let v12:Int:=IntKind.wrap .u64 (v11+1)
 chk (inB v10 4) (chk (decide (v10.toNat < 4)) (let v13:Int:=IntKind.wrap .i64 (i_2 - 1)
 g0 (v13,b3,b4,(b5.set (v6.toNat) v9).set (v10.toNat) v12,()))))))) (let v14:Int:=IntKind.wrap .i64 (i_2 - 1)
 g0 (v14,b3,b4,b5.set (v6.toNat) v9,()))))))))))) (some b5)
def Av (n:Nat) (x:List (Bool)):Option (List (Int)) :=let a_0:=x
 fix (uD n) n (255,a_0,[0,0,0,0],[0,0,0,0],())
def dD (n:Nat) (x19:Int×List (Int)×Int×Int×Int×Int×Int×Int×List (Int)×Int×Int×Int×Int×Int×Unit):Option (Bool) :=let yIp:=x19.1
 let yWu:=x19.2.1
 let A22:=x19.2.2.1
 let B23:=x19.2.2.2.1
 let yWv:=x19.2.2.2.2.1
 let yWw:=x19.2.2.2.2.2.1
 let N26:=x19.2.2.2.2.2.2.1
 let yUc:=x19.2.2.2.2.2.2.2.1
 let yWx:=x19.2.2.2.2.2.2.2.2.1
 let A29:=x19.2.2.2.2.2.2.2.2.2.1
 let B30:=x19.2.2.2.2.2.2.2.2.2.2.1
 let yWy:=x19.2.2.2.2.2.2.2.2.2.2.2.1
 let yWz:=x19.2.2.2.2.2.2.2.2.2.2.2.2.1
 let N33:=x19.2.2.2.2.2.2.2.2.2.2.2.2.2.1
 br (Ty.beq aD (yUc,(yWx,(A29,(B30,(yWy,(yWz,(N33,()))))))) (yIp,(yWu,(A22,(B23,(yWv,(yWw,(N26,())))))))) (br (decide (yIp < 7)) (some true) (br (decide (N26≥1)) (some (decide (N26<=9))) (some false))) (some false)
def iP (n:Nat) (x34:Int×Bool×Int×List (Int)×Int×Int×Int×Int×Int×Int×List (Int)×Int×Int×Int×Int×Int×Unit):Option (Bool) :=let zWn:=x34.1
 let yUd:=x34.2.1
 let zAt:=x34.2.2.1
 let zKq:=x34.2.2.2.1
 let A39:=x34.2.2.2.2.1
 let B40:=x34.2.2.2.2.2.1
 let Jb:=x34.2.2.2.2.2.2.1
 let Ev:=x34.2.2.2.2.2.2.2.1
 let N43:=x34.2.2.2.2.2.2.2.2.1
 let zAu:=x34.2.2.2.2.2.2.2.2.2.1
 let zKr:=x34.2.2.2.2.2.2.2.2.2.2.1
 let A46:=x34.2.2.2.2.2.2.2.2.2.2.2.1
 let B47:=x34.2.2.2.2.2.2.2.2.2.2.2.2.1
 let yFe:=x34.2.2.2.2.2.2.2.2.2.2.2.2.2.1
 let yFf:=x34.2.2.2.2.2.2.2.2.2.2.2.2.2.2.1
 let N50:=x34.2.2.2.2.2.2.2.2.2.2.2.2.2.2.2.1
 br yUd (jn (dD n) (zAt,zKq,A39,B40,Jb,Ev,N43,zAu,zKr,A39,B40,yFe,yFf,N50,())) (br (zWn==6) (br (decide (Jb < 0)) (some false) (br (decide (Jb > 255)) (some false) (br (Ev != (-1)) (br (decide (Ev<Jb)) (some false) (br (decide (Ev < 1)) (some false) (br (decide (Ev > 255)) (some false) (jn (dD n) (zAt,zKq,A39,B40,Jb,Ev,N43,zAu,zKr,A39,B47,Jb,Ev,N50,()))))) (jn (dD n) (zAt,zKq,A39,B40,Jb,Ev,N43,zAu,zKr,A39,B47,Jb,Ev,N50,()))))) (br (zWn==7) (jn (dD n) (zAt,zKq,A39,B40,Jb,Ev,N43,zAu,zKr,A39,B47,yFe,yFf,N43,())) (br (zWn==8) (jn (dD n) (zAt,zKq,A39,B40,Jb,Ev,N43,zAu,zKr,A46,B47,yFe,yFf,N43,())) (some false))))
def dW (n:Nat) (x1:Int×Bool×Int×List (Int)×Int×Int×Int×Int×Int×Int×List (Int)×Int×Int×Int×Int×Int×List (Int)×Unit):Option (Bool) :=let zEa:=x1.1
 let yXa:=x1.2.1
 let zTk:=x1.2.2.1
 let zOh:=x1.2.2.2.1
 let A6:=x1.2.2.2.2.1
 let B7:=x1.2.2.2.2.2.1
 let yFg:=x1.2.2.2.2.2.2.1
 let yFh:=x1.2.2.2.2.2.2.2.1
 let N10:=x1.2.2.2.2.2.2.2.2.1
 let zKs:=x1.2.2.2.2.2.2.2.2.2.1
 let yFi:=x1.2.2.2.2.2.2.2.2.2.2.1
 let A13:=x1.2.2.2.2.2.2.2.2.2.2.2.1
 let B14:=x1.2.2.2.2.2.2.2.2.2.2.2.2.1
 let zTl:=x1.2.2.2.2.2.2.2.2.2.2.2.2.2.1
 let zTm:=x1.2.2.2.2.2.2.2.2.2.2.2.2.2.2.1
 let N17:=x1.2.2.2.2.2.2.2.2.2.2.2.2.2.2.2.1
 let b18:=x1.2.2.2.2.2.2.2.2.2.2.2.2.2.2.2.2.1
 br yXa (jn (dD n) (zTk,zOh,A6,B7,yFg,yFh,N10,zKs,yFi,A13,B14,zTl,zTm,N17,())) (br (zEa==1) (br (Ty.beq (.arr 4 (.int .u64)) zOh b18) (some false) (jn (dD n) (zTk,zOh,A6,B7,yFg,yFh,N10,zKs,zOh,A13,B14,zTl,zTm,N17,()))) (br (zEa==4) (jn (iP n) (zEa,(zEa==4),zTk,zOh,A6,B7,yFg,yFh,N10,zKs,yFi,A13,B14,zTl,zTm,N17,())) (jn (iP n) (zEa,(zEa==5),zTk,zOh,A6,B7,yFg,yFh,N10,zKs,yFi,A13,B14,zTl,zTm,N17,()))))
def bZ (n:Nat) (x:Int×List (Int)×Int×Int×Int×Int×Int×Unit):Option (Bool) :=let n_0:=x
 br (n_0.1==0) (jn (dW n) (n_0.1,(n_0.1==0),n_0.1,n_0.2.1,n_0.2.2.1,n_0.2.2.2.1,n_0.2.2.2.2.1,n_0.2.2.2.2.2.1,n_0.2.2.2.2.2.2.1,n_0.1,[0,0,0,0],0,0,0,0,0,[0,0,0,0],())) (br (n_0.1==2) (jn (dW n) (n_0.1,(n_0.1==2),n_0.1,n_0.2.1,n_0.2.2.1,n_0.2.2.2.1,n_0.2.2.2.2.1,n_0.2.2.2.2.2.1,n_0.2.2.2.2.2.2.1,n_0.1,[0,0,0,0],0,0,0,0,0,[0,0,0,0],())) (jn (dW n) (n_0.1,(n_0.1==3),n_0.1,n_0.2.1,n_0.2.2.1,n_0.2.2.2.1,n_0.2.2.2.2.1,n_0.2.2.2.2.2.1,n_0.2.2.2.2.2.2.1,n_0.1,[0,0,0,0],0,0,0,0,0,[0,0,0,0],())))
def gY (n:Nat) (iE:(List (NdT)×Int)->Option (Int)) (x:List (NdT)×Int):Option (Int) :=let l_0:=x.1
 let i_1:=x.2
 br (decide (i_1 < 0)) (some (-1)) (chk (inB i_1 l_0.length) (let v1:Int×List (Int)×Int×Int×Int×Int×Int×Unit:=aR (Ty.dflt aD) l_0 i_1
 br (v1.1==4) (br (v1.1==4) (chk (inB i_1 l_0.length) (let v2:Int×List (Int)×Int×Int×Int×Int×Int×Unit:=aR (Ty.dflt aD) l_0 i_1
 let v3:Int:=IntKind.wrap .i64 (i_1 - 1)
 br (v2.2.2.2.1 != v3) (some (-1)) (let v4:Int:=IntKind.wrap .i64 (i_1 - 1)
 ob (iE (l_0,v4)) fun y5 =>br (decide (y5 < 1)) (some (-1)) (chk (inB i_1 l_0.length) (let v6:Int×List (Int)×Int×Int×Int×Int×Int×Unit:=aR (Ty.dflt aD) l_0 i_1
 let v7:Int:=IntKind.wrap .i64 (y5 - 1)
 br (v6.2.2.1 != v7) (some (-1)) (let v8:Int:=IntKind.wrap .i64 (y5 - 1)
 ob (iE (l_0,v8)) fun y9 =>some y9)))))) (br (v1.1==6) (br (v1.1==6) (chk (inB i_1 l_0.length) (let v10:Int×List (Int)×Int×Int×Int×Int×Int×Unit:=aR (Ty.dflt aD) l_0 i_1
 let v11:Int:=IntKind.wrap .i64 (i_1 - 1)
 br (v10.2.2.1 != v11) (some (-1)) (let v12:Int:=IntKind.wrap .i64 (i_1 - 1)
 ob (iE (l_0,v12)) fun y13 =>some y13))) (some i_1)) (br (v1.1==7) (chk (inB i_1 l_0.length) (let v14:Int×List (Int)×Int×Int×Int×Int×Int×Unit:=aR (Ty.dflt aD) l_0 i_1
 let v15:Int:=IntKind.wrap .i64 (i_1 - 1)
 br (v14.2.2.1 != v15) (some (-1)) (let v16:Int:=IntKind.wrap .i64 (i_1 - 1)
 ob (iE (l_0,v16)) fun y17 =>some y17))) (some i_1)))) (br (v1.1==5) (chk (inB i_1 l_0.length) (let v18:Int×List (Int)×Int×Int×Int×Int×Int×Unit:=aR (Ty.dflt aD) l_0 i_1
 let v19:Int:=IntKind.wrap .i64 (i_1 - 1)
 br (v18.2.2.2.1 != v19) (some (-1)) (let v20:Int:=IntKind.wrap .i64 (i_1 - 1)
 ob (iE (l_0,v20)) fun y21 =>br (decide (y21 < 1)) (some (-1)) (chk (inB i_1 l_0.length) (let v22:Int×List (Int)×Int×Int×Int×Int×Int×Unit:=aR (Ty.dflt aD) l_0 i_1
 let v23:Int:=IntKind.wrap .i64 (y21 - 1)
 br (v22.2.2.1 != v23) (some (-1)) (let v24:Int:=IntKind.wrap .i64 (y21 - 1)
 ob (iE (l_0,v24)) fun y25 =>some y25)))))) (br (v1.1==6) (br (v1.1==6) (chk (inB i_1 l_0.length) (let v26:Int×List (Int)×Int×Int×Int×Int×Int×Unit:=aR (Ty.dflt aD) l_0 i_1
 let v27:Int:=IntKind.wrap .i64 (i_1 - 1)
 br (v26.2.2.1 != v27) (some (-1)) (let v28:Int:=IntKind.wrap .i64 (i_1 - 1)
 ob (iE (l_0,v28)) fun y29 =>some y29))) (some i_1)) (br (v1.1==7) (chk (inB i_1 l_0.length) (let v30:Int×List (Int)×Int×Int×Int×Int×Int×Unit:=aR (Ty.dflt aD) l_0 i_1
 let v31:Int:=IntKind.wrap .i64 (i_1 - 1)
 br (v30.2.2.1 != v31) (some (-1)) (let v32:Int:=IntKind.wrap .i64 (i_1 - 1)
 ob (iE (l_0,v32)) fun y33 =>some y33))) (some i_1))))))
def fP (n:Nat):(List (NdT)×Int)->Option (Int) :=Wi (fun n r x=>gY n r x) n
def eX (n:Nat) (bT:(List (NdT)×Int×Bool×Int×List (Bool)×Bool×Unit)->Option (Bool×Int×List (Bool)×Bool×Unit)) (x:List (NdT)×Int×Bool×Int×List (Bool)×Bool×Unit):Option (Bool×Int×List (Bool)×Bool×Unit) :=let l_0:=x.1
 let i_1:=x.2.1
 let w_2:=x.2.2
 chk (inB i_1 l_0.length) (let v1:Int×List (Int)×Int×Int×Int×Int×Int×Unit:=aR (Ty.dflt aD) l_0 i_1
 br (v1.1==4) (chk (inB v1.2.2.1 l_0.length) (let v2:Int×List (Int)×Int×Int×Int×Int×Int×Unit:=aR (Ty.dflt aD) l_0 v1.2.2.1
 br (v2.1==4) (ob (bT (l_0,v1.2.2.1,(false,w_2.2))) fun y3 =>ob (bT (l_0,v1.2.2.2.1,y3)) fun y4 =>some y4) (chk (inB v1.2.2.1 l_0.length) (let v5:Int×List (Int)×Int×Int×Int×Int×Int×Unit:=aR (Ty.dflt aD) l_0 v1.2.2.1
 br (v5.1==5) (ob (bT (l_0,v1.2.2.1,(false,w_2.2))) fun y6 =>ob (bT (l_0,v1.2.2.2.1,y6)) fun y7 =>some y7) (chk (inB v1.2.2.2.1 l_0.length) (let v8:Int×List (Int)×Int×Int×Int×Int×Int×Unit:=aR (Ty.dflt aD) l_0 v1.2.2.2.1
 br (v8.1==5) (ob (bT (l_0,v1.2.2.1,(false,w_2.2))) fun y9 =>ob (bT (l_0,v1.2.2.2.1,y9)) fun y10 =>some y10) (ob (bT (l_0,v1.2.2.1,w_2)) fun y11 =>ob (bT (l_0,v1.2.2.2.1,y11)) fun y12 =>some y12))))))) (br (v1.1==5) (chk (inB v1.2.2.1 l_0.length) (let v13:Int×List (Int)×Int×Int×Int×Int×Int×Unit:=aR (Ty.dflt aD) l_0 v1.2.2.1
 br (v13.1==5) (ob (bT (l_0,v1.2.2.1,(false,w_2.2))) fun y14 =>ob (bT (l_0,v1.2.2.2.1,y14)) fun y15 =>some y15) (ob (bT (l_0,v1.2.2.1,w_2)) fun y16 =>ob (bT (l_0,v1.2.2.2.1,y16)) fun y17 =>some y17))) (br (v1.1==6) (chk (inB v1.2.2.1 l_0.length) (let v18:Int×List (Int)×Int×Int×Int×Int×Int×Unit:=aR (Ty.dflt aD) l_0 v1.2.2.1
 br (v18.1 != 1) (chk (inB v1.2.2.1 l_0.length) (let v19:Int×List (Int)×Int×Int×Int×Int×Int×Unit:=aR (Ty.dflt aD) l_0 v1.2.2.1
 br (v19.1 != 7) (chk (inB v1.2.2.1 l_0.length) (let v20:Int×List (Int)×Int×Int×Int×Int×Int×Unit:=aR (Ty.dflt aD) l_0 v1.2.2.1
 br (v20.1 != 8) (ob (bT (l_0,v1.2.2.1,(false,w_2.2))) fun y21 =>some y21) (ob (bT (l_0,v1.2.2.1,w_2)) fun y22 =>some y22))) (ob (bT (l_0,v1.2.2.1,w_2)) fun y23 =>some y23))) (ob (bT (l_0,v1.2.2.1,w_2)) fun y24 =>some y24))) (br (v1.1==7) (let v25:Int:=IntKind.wrap .i64 (w_2.2.1+1)
 br (v25 != v1.2.2.2.2.2.2.1) (ob (bT (l_0,v1.2.2.1,(false,(v25,w_2.2.2)))) fun y26 =>chk (inB v1.2.2.2.2.2.2.1 10) (chk (decide (v1.2.2.2.2.2.2.1.toNat < 10)) (some (y26.1,(y26.2.1,(y26.2.2.1.set (v1.2.2.2.2.2.2.1.toNat) true,y26.2.2.2)))))) (ob (bT (l_0,v1.2.2.1,(w_2.1,(v25,w_2.2.2)))) fun y27 =>chk (inB v1.2.2.2.2.2.2.1 10) (chk (decide (v1.2.2.2.2.2.2.1.toNat < 10)) (some (y27.1,(y27.2.1,(y27.2.2.1.set (v1.2.2.2.2.2.2.1.toNat) true,y27.2.2.2))))))) (br (v1.1==8) (chk (inB v1.2.2.2.2.2.2.1 10) (chk (decide (v1.2.2.2.2.2.2.1.toNat < 10)) (br (!(w_2.2.2.1.getD (v1.2.2.2.2.2.2.1.toNat) (Ty.dflt .bool))) (some (false,(w_2.2.1,(w_2.2.2.1,(true,()))))) (some (w_2.1,(w_2.2.1,(w_2.2.2.1,(true,())))))))) (br (v1.1==0) (br ((l_0.length:Int) != 1) (some (false,w_2.2)) (some w_2)) (some w_2)))))))
def iF (n:Nat):(List (NdT)×Int×Bool×Int×List (Bool)×Bool×Unit)->Option (Bool×Int×List (Bool)×Bool×Unit) :=Wi (fun n r x=>eX n r x) n
def gL (n:Nat) (g0:List (NdT)×Int×Bool×Int×List (Bool)×Bool×Unit->Option (Bool×Int×List (Bool)×Bool×Unit)) (x1:List (NdT)×Int×Bool×Int×List (Bool)×Bool×Unit):Option (Bool×Int×List (Bool)×Bool×Unit) :=let l_2:=x1.1
 let i_3:=x1.2.1
 let yXb:=x1.2.2.1
 let zWo:=x1.2.2.2.1
 let yUe:=x1.2.2.2.2.1
 let yXc:=x1.2.2.2.2.2.1
 br (decide (i_3<(l_2.length:Int))) (chk (inB i_3 l_2.length) (let v8:Int×List (Int)×Int×Int×Int×Int×Int×Unit:=aR (Ty.dflt aD) l_2 i_3
 ob (bZ n v8) fun y9 =>br (!y9) (some (false,(0,([false,false,false,false,false,false,false,false,false,false],(false,()))))) (let v10:Int:=IntKind.wrap .i64 (i_3+1)
 g0 (l_2,v10,yXb,zWo,yUe,yXc,())))) (let v11:Int:=IntKind.wrap .i64 ((l_2.length:Int) - 1)
 ob (fP n (l_2,v11)) fun y12 =>br (y12 != 0) (some (false,(0,([false,false,false,false,false,false,false,false,false,false],(false,()))))) (let v13:Int:=IntKind.wrap .i64 ((l_2.length:Int) - 1)
 ob (iF n (l_2,v13,(true,(0,([false,false,false,false,false,false,false,false,false,false],(false,())))))) fun y14 =>some y14))
def Mx (n:Nat) (x:List (NdT)):Option (Bool×Int×List (Bool)×Bool×Unit) :=let l_0:=x
 br (decide ((l_0.length:Int) < 1)) (some (false,(0,([false,false,false,false,false,false,false,false,false,false],(false,()))))) (br (decide ((l_0.length:Int) > 120)) (some (false,(0,([false,false,false,false,false,false,false,false,false,false],(false,()))))) (fix (gL n) n (l_0,0,false,0,[false,false,false,false,false,false,false,false,false,false],false,())))
def vB (n:Nat) (x:List (NdT)):Option (Bool) :=let l_0:=x
 ob (Mx n l_0) fun y1 =>some y1.1
def vO (n:Nat) (g0:Int×List (Int)×List (Bool)×List (Bool)×Unit->Option (List (Bool))) (x1:Int×List (Int)×List (Bool)×List (Bool)×Unit):Option (List (Bool)) :=let i_2:=x1.1
 let b3:=x1.2.1
 let b4:=x1.2.2.1
 let b5:=x1.2.2.2.1
 br (decide (i_2 < 256)) (chk ((!decide (64 = 0))) (let v6:Int:=IntKind.wrap .i64 (Int.tdiv i_2 64)
 chk (inB v6 4) (chk (decide (v6.toNat < 4)) (let v7:Int:=b3.getD (v6.toNat) (Ty.dflt (.int .u64))
 chk ((!decide (2 = 0))) (chk (inB i_2 256) (chk (decide (i_2.toNat < 256)) (chk ((!decide (64 = 0))) (let v8:Int:=IntKind.wrap .i64 (Int.tdiv i_2 64)
 chk ((!decide (64 = 0))) (let v9:Int:=IntKind.wrap .i64 (Int.tdiv i_2 64)
 chk (inB v9 4) (chk (decide (v9.toNat < 4)) (let v10:Int:=b3.getD (v9.toNat) (Ty.dflt (.int .u64))
 chk ((!decide (2 = 0))) (let v11:Int:=IntKind.wrap .u64 (Int.tdiv v10 2)
 chk (inB v8 4) (chk (decide (v8.toNat < 4)) (let v12:Int:=IntKind.wrap .i64 (i_2+1)
 g0 (v12,b3.set (v8.toNat) v11,b4,b5.set (i_2.toNat) ((Int.tmod v7 2)==1),()))))))))))))))) (some b5)
def Ew (n:Nat) (x:List (Int)):Option (List (Bool)) :=let w_0:=x
 fix (vO n) n (0,w_0,(List.replicate 256 false),(List.replicate 256 false),())
def sJ (n:Nat) (sK:Int->Option (List UInt8)) (x:Int):Option (List UInt8) :=let n_0:=x
 br (decide (n_0 < 10)) (let v1:Int:=IntKind.wrap .u64 (n_0+1)
 chk ((decide (0<=v1)&&decide (v1<=([48,49,50,51,52,53,54,55,56,57].length:Int))&&(decide (0<=n_0)&&decide (n_0<=v1)))) (let v2:List UInt8:=([48,49,50,51,52,53,54,55,56,57].take v1.toNat).drop n_0.toNat
 some v2)) (chk ((!decide (10 = 0))) (let v3:Int:=IntKind.wrap .u64 (Int.tdiv n_0 10)
 ob (sK v3) fun y4 =>chk ((!decide (10 = 0))) (chk ((!decide (10 = 0))) (let v5:Int:=IntKind.wrap .u64 ((Int.tmod n_0 10)+1)
 chk ((decide (0<=v5)&&decide (v5<=([48,49,50,51,52,53,54,55,56,57].length:Int))&&(decide (0<=(Int.tmod n_0 10))&&decide ((Int.tmod n_0 10)<=v5)))) (let v6:List UInt8:=([48,49,50,51,52,53,54,55,56,57].take v5.toNat).drop (Int.tmod n_0 10).toNat
 chk (decide (y4.length+v6.length<=aG)) (some (y4++v6)))))))
def oQ (n:Nat):Int->Option (List UInt8) :=Wi (fun n r x=>sJ n r x) n
def oF (n:Nat) (x:Int):Option (List UInt8) :=let n_0:=x
 br (decide (n_0 < 0)) (let v1:Int:=IntKind.wrap .i64 (n_0+1)
 let v2:Int:=IntKind.wrap .i64 (0-v1)
 let v3:Int:=IntKind.wrap .u64 ((IntKind.wrap .u64 v2)+1)
 ob (oQ n v3) fun y4 =>chk (decide ([45].length+y4.length<=aG)) (some ([45]++y4))) (ob (oQ n (IntKind.wrap .u64 n_0)) fun y5 =>some y5)
def zI (n:Nat) (g0:List UInt8×Int×Int×Unit->Option (Bool)) (x1:List UInt8×Int×Int×Unit):Option (Bool) :=let s_2:=x1.1
 let b_3:=x1.2.1
 let i_4:=x1.2.2.1
 br (decide (i_4<(s_2.length:Int))) (chk (inB i_4 s_2.length) (let v5:Int:=((aR 0 s_2 i_4).toNat:Int)
 br (v5==b_3) (some true) (let v6:Int:=IntKind.wrap .i64 (i_4+1)
 g0 (s_2,b_3,v6,())))) (some false)
def tT (n:Nat) (x:List UInt8×Int):Option (Bool) :=let s_0:=x.1
 let b_1:=x.2
 fix (zI n) n (s_0,b_1,0,())
def wK (n:Nat) (x:Int×List UInt8):Option (List UInt8) :=let b_0:=x.1
 let zAv:=x.2
 br (b_0==10) (some [92,110]) (ob (tT n (zAv,b_0)) fun y1 =>br y1 (chk (decide ([92].length+(fZ [b_0]).length<=aG)) (some ([92]++(fZ [b_0])))) (some (fZ [b_0])))
def qQ (n:Nat) (g0:List UInt8×Int×List (Bool)×Unit->Option (List UInt8)) (x31:List UInt8×Int×Int×Int×Int×Bool×List (Bool)×Unit):Option (List UInt8) :=let zKt:=x31.1
 let yFj:=x31.2.1
 let yNa:=x31.2.2.1
 let xAm:=x31.2.2.2.1
 let xAn:=x31.2.2.2.2.1
 let xAo:=x31.2.2.2.2.2.1
 let b38:=x31.2.2.2.2.2.2.1
 let v39:Int:=IntKind.wrap .i64 (yNa-yFj)
 br (decide (v39≥2)) (let v40:List UInt8:=fZ [IntKind.wrap .u8 yFj,45,IntKind.wrap .u8 yNa]
 chk (decide (zKt.length+v40.length<=aG)) (let v41:Int:=IntKind.wrap .i64 (yNa+1)
 g0 (zKt++v40,v41,b38,()))) (let v42:List UInt8:=fZ [IntKind.wrap .u8 yFj]
 chk (decide (zKt.length+v42.length<=aG)) (let v43:Int:=IntKind.wrap .i64 (yFj+1)
 g0 (zKt++v42,v43,b38,())))
def Ck (n:Nat) (g0:List UInt8×Int×List (Bool)×Unit->Option (List UInt8)) (g1:List UInt8×Int×Int×Int×Int×Bool×List (Bool)×Unit->Option (List UInt8)) (x18:List UInt8×Int×Int×Int×Int×Bool×List (Bool)×Unit):Option (List UInt8) :=let zKu:=x18.1
 let yFk:=x18.2.1
 let zHj:=x18.2.2.1
 let zKv:=x18.2.2.2.1
 let zKw:=x18.2.2.2.2.1
 let zKx:=x18.2.2.2.2.2.1
 let b25:=x18.2.2.2.2.2.2.1
 let v26:Int:=IntKind.wrap .i64 (zHj+1)
 br (decide (v26 < 256)) (let v27:Int:=IntKind.wrap .i64 (zHj+1)
 chk (inB v27 256) (chk (decide (v27.toNat < 256)) (br (b25.getD (v27.toNat) (Ty.dflt .bool)) (let v28:Int:=IntKind.wrap .i64 (zHj+1)
 ob (tT n ([93,91,92,94,45,10],IntKind.wrap .u8 v28)) fun y29 =>br (!y29) (let v30:Int:=IntKind.wrap .i64 (zHj+1)
 g1 (zKu,yFk,v30,zKv,zKw,zKx,b25,())) (jn (qQ n g0) (zKu,yFk,zHj,zKv,zKw,zKx,b25,()))) (jn (qQ n g0) (zKu,yFk,zHj,zKv,zKw,zKx,b25,()))))) (jn (qQ n g0) (zKu,yFk,zHj,zKv,zKw,zKx,b25,()))
def Ot (n:Nat) (g0:List UInt8×Int×List (Bool)×Unit->Option (List UInt8)) (x11:List UInt8×Int×Int×Int×Bool×List (Bool)×Unit):Option (List UInt8) :=let yUf:=x11.1
 let yUg:=x11.2.1
 let yUh:=x11.2.2.1
 let yUi:=x11.2.2.2.1
 let yUj:=x11.2.2.2.2.1
 let b17:=x11.2.2.2.2.2.1
 fix (Ck n g0) n (yUf,yUg,yUg,yUh,yUi,yUj,b17,())
def vP (n:Nat) (x50:List UInt8×List (Bool)×Unit):Option (List UInt8) :=let uO:=x50.1
 let b52:=x50.2.1
 ob (nO n b52) fun y53 =>br (y53==[45,94]) (chk (decide (uO.length+([45,94,93]:List UInt8).length<=aG)) (some (uO++[45,94,93]))) (chk (inB 94 256) (chk (decide ((94:Int).toNat < 256)) (br (b52.getD ((94:Int).toNat) (Ty.dflt .bool)) (chk (decide (uO.length+([94]:List UInt8).length<=aG)) (chk (inB 45 256) (chk (decide ((45:Int).toNat < 256)) (br (b52.getD ((45:Int).toNat) (Ty.dflt .bool)) (chk (decide ((uO++[94]).length+([45]:List UInt8).length<=aG)) (chk (decide (((uO++[94])++[45]).length+([93]:List UInt8).length<=aG)) (let v54:List UInt8:=((uO++[94])++[45])++[93]
 some v54))) (chk (decide ((uO++[94]).length+([93]:List UInt8).length<=aG)) (some ((uO++[94])++[93]))))))) (chk (inB 45 256) (chk (decide ((45:Int).toNat < 256)) (br (b52.getD ((45:Int).toNat) (Ty.dflt .bool)) (chk (decide (uO.length+([45]:List UInt8).length<=aG)) (chk (decide ((uO++[45]).length+([93]:List UInt8).length<=aG)) (some ((uO++[45])++[93])))) (chk (decide (uO.length+([93]:List UInt8).length<=aG)) (some (uO++[93])))))))))
def vQ (n:Nat) (x47:List UInt8×List (Bool)×Unit):Option (List UInt8) :=let zWp:=x47.1
 let b49:=x47.2.1
 chk (inB 92 256) (chk (decide ((92:Int).toNat < 256)) (br (b49.getD ((92:Int).toNat) (Ty.dflt .bool)) (chk (decide (zWp.length+([92]:List UInt8).length<=aG)) (jn (vP n) (zWp++[92],b49,()))) (jn (vP n) (zWp,b49,()))))
def vR (n:Nat) (x44:List UInt8×List (Bool)×Unit):Option (List UInt8) :=let zWq:=x44.1
 let b46:=x44.2.1
 chk (inB 91 256) (chk (decide ((91:Int).toNat < 256)) (br (b46.getD ((91:Int).toNat) (Ty.dflt .bool)) (chk (decide (zWq.length+([91]:List UInt8).length<=aG)) (jn (vQ n) (zWq++[91],b46,()))) (jn (vQ n) (zWq,b46,()))))
def nE (n:Nat) (g0:List UInt8×Int×List (Bool)×Unit->Option (List UInt8)) (x4:List UInt8×Int×List (Bool)×Unit):Option (List UInt8) :=let zEb:=x4.1
 let i_6:=x4.2.1
 let b7:=x4.2.2.1
 br (decide (i_6 < 256)) (chk (inB i_6 256) (chk (decide (i_6.toNat < 256)) (br (!(b7.getD (i_6.toNat) (Ty.dflt .bool))) (let v8:Int:=IntKind.wrap .i64 (i_6+1)
 g0 (zEb,v8,b7,())) (ob (tT n ([93,91,92,94,45,10],IntKind.wrap .u8 i_6)) fun y9 =>br y9 (let v10:Int:=IntKind.wrap .i64 (i_6+1)
 g0 (zEb,v10,b7,())) (jn (Ot n g0) (zEb,i_6,i_6,IntKind.wrap .u8 i_6,y9,b7,())))))) (chk (inB 10 256) (chk (decide ((10:Int).toNat < 256)) (br (b7.getD ((10:Int).toNat) (Ty.dflt .bool)) (chk (decide (zEb.length+([92,110]:List UInt8).length<=aG)) (jn (vR n) (zEb++[92,110],b7,()))) (jn (vR n) (zEb,b7,())))))
def Cm (n:Nat) (x1:List UInt8×List (Bool)×Unit):Option (List UInt8) :=let yXd:=x1.1
 let b3:=x1.2.1
 fix (nE n) n (yXd,0,b3,())
def Ey (n:Nat) (x:List (Bool)):Option (List UInt8) :=let a_0:=x
 chk (inB 93 256) (chk (decide ((93:Int).toNat < 256)) (br (a_0.getD ((93:Int).toNat) (Ty.dflt .bool)) (chk (decide ([91].length+([93]:List UInt8).length<=aG)) (jn (Cm n) ([91]++[93],a_0,()))) (jn (Cm n) ([91],a_0,()))))
def Jc (n:Nat) (x:List (Bool)×List UInt8):Option (List UInt8) :=let a_0:=x.1
 let zAv:=x.2
 ob (vM n a_0) fun y1 =>br (y1==0) (some []) (br (y1==1) (ob (nO n a_0) fun y2 =>chk (inB 0 y2.length) (let v3:Int:=((aR 0 y2 0).toNat:Int)
 ob (wK n (v3,zAv)) fun y4 =>some y4)) (br (y1==256) (some [46]) (ob (Ey n a_0) fun y5 =>some y5)))
def sM (n:Nat) (g0:List UInt8×Int×Int×Int×Unit->Option (Int×Int)) (x1:List UInt8×Int×Int×Int×Unit):Option (Int×Int) :=let s_2:=x1.1
 let i_3:=x1.2.1
 let n_4:=x1.2.2.1
 let k_5:=x1.2.2.2.1
 br (decide (k_5<(s_2.length:Int))) (let v6:Int:=IntKind.wrap .i64 (i_3+3)
 br (decide (k_5<v6)) (chk (inB k_5 s_2.length) (let v7:Int:=((aR 0 s_2 k_5).toNat:Int)
 br (decide (v7≥48)) (chk (inB k_5 s_2.length) (let v8:Int:=((aR 0 s_2 k_5).toNat:Int)
 br (decide (v8<=57)) (let v9:Int:=IntKind.wrap .i64 (n_4 * 10)
 chk (inB k_5 s_2.length) (let v10:Int:=((aR 0 s_2 k_5).toNat:Int)
 let v11:Int:=IntKind.wrap .u8 (v10 - 48)
 let v12:Int:=IntKind.wrap .i64 (v9+(IntKind.wrap .i64 v11))
 let v13:Int:=IntKind.wrap .i64 (k_5+1)
 g0 (s_2,i_3,v12,v13,()))) (br (k_5==i_3) (some (0,(-1))) (some (n_4,k_5))))) (br (k_5==i_3) (some (0,(-1))) (some (n_4,k_5))))) (br (k_5==i_3) (some (0,(-1))) (some (n_4,k_5)))) (br (k_5==i_3) (some (0,(-1))) (some (n_4,k_5)))
def uP (n:Nat) (x:List UInt8×Int):Option (Int×Int) :=let s_0:=x.1
 let i_1:=x.2
 fix (sM n) n (s_0,i_1,0,i_1,())
def Aw (n:Nat) (x:List UInt8×Int×List UInt8):Option (Int×Int×Int) :=let s_0:=x.1
 let i_1:=x.2.1
 let rT:=x.2.2
 ob (uP n (s_0,i_1)) fun y1 =>br (decide (y1.2 < 0)) (some (0,0,(-1))) (br (decide (y1.2<(s_0.length:Int))) (chk (inB y1.2 s_0.length) (let v2:Int:=((aR 0 s_0 y1.2).toNat:Int)
 br (v2==44) (let v3:Int:=IntKind.wrap .i64 (y1.2+1)
 ob (uP n (s_0,v3)) fun y4 =>br (decide (y4.2≥0)) (let v5:Int:=IntKind.wrap .i64 (y4.2+(rT.length:Int))
 br (decide (v5>(s_0.length:Int))) (some (0,0,(-1))) (let v6:Int:=IntKind.wrap .i64 (y4.2+(rT.length:Int))
 chk ((decide (0<=v6)&&decide (v6<=(s_0.length:Int))&&(decide (0<=y4.2)&&decide (y4.2<=v6)))) (let v7:List UInt8:=(s_0.take v6.toNat).drop y4.2.toNat
 br (!(v7==rT)) (some (0,0,(-1))) (br (decide (y1.1 > 255)) (some (0,0,(-1))) (br (decide (y4.1 > 255)) (some (0,0,(-1))) (br (decide (y4.1≥0)) (br (decide (y4.1<y1.1)) (some (0,0,(-1))) (br (y4.1==0) (some (0,0,(-1))) (let v8:Int:=IntKind.wrap .i64 (y4.2+(rT.length:Int))
 some (y1.1,y4.1,v8)))) (br (y4.1==0) (some (0,0,(-1))) (let v9:Int:=IntKind.wrap .i64 (y4.2+(rT.length:Int))
 some (y1.1,y4.1,v9))))))))) (let v10:Int:=IntKind.wrap .i64 (v3+(rT.length:Int))
 br (decide (v10>(s_0.length:Int))) (some (0,0,(-1))) (let v11:Int:=IntKind.wrap .i64 (v3+(rT.length:Int))
 chk ((decide (0<=v11)&&decide (v11<=(s_0.length:Int))&&(decide (0<=v3)&&decide (v3<=v11)))) (let v12:List UInt8:=(s_0.take v11.toNat).drop v3.toNat
 br (!(v12==rT)) (some (0,0,(-1))) (br (decide (y1.1 > 255)) (some (0,0,(-1))) (br (decide (((-1):Int) > 255)) (some (0,0,(-1))) (br (decide (((-1):Int)≥0)) (br (decide (((-1):Int)<y1.1)) (some (0,0,(-1))) (br (((-1):Int)==0) (some (0,0,(-1))) (let v13:Int:=IntKind.wrap .i64 (v3+(rT.length:Int))
 some (y1.1,(-1),v13)))) (br (((-1):Int)==0) (some (0,0,(-1))) (let v14:Int:=IntKind.wrap .i64 (v3+(rT.length:Int))
 some (y1.1,(-1),v14)))))))))) (let v15:Int:=IntKind.wrap .i64 (y1.2+(rT.length:Int))
 br (decide (v15>(s_0.length:Int))) (some (0,0,(-1))) (let v16:Int:=IntKind.wrap .i64 (y1.2+(rT.length:Int))
 chk ((decide (0<=v16)&&decide (v16<=(s_0.length:Int))&&(decide (0<=y1.2)&&decide (y1.2<=v16)))) (let v17:List UInt8:=(s_0.take v16.toNat).drop y1.2.toNat
 br (!(v17==rT)) (some (0,0,(-1))) (br (decide (y1.1 > 255)) (some (0,0,(-1))) (br (decide (y1.1 > 255)) (some (0,0,(-1))) (br (decide (y1.1≥0)) (br (decide (y1.1<y1.1)) (some (0,0,(-1))) (br (y1.1==0) (some (0,0,(-1))) (let v18:Int:=IntKind.wrap .i64 (y1.2+(rT.length:Int))
 some (y1.1,y1.1,v18)))) (br (y1.1==0) (some (0,0,(-1))) (let v19:Int:=IntKind.wrap .i64 (y1.2+(rT.length:Int))
 some (y1.1,y1.1,v19))))))))))) (let v20:Int:=IntKind.wrap .i64 (y1.2+(rT.length:Int))
 br (decide (v20>(s_0.length:Int))) (some (0,0,(-1))) (let v21:Int:=IntKind.wrap .i64 (y1.2+(rT.length:Int))
 chk ((decide (0<=v21)&&decide (v21<=(s_0.length:Int))&&(decide (0<=y1.2)&&decide (y1.2<=v21)))) (let v22:List UInt8:=(s_0.take v21.toNat).drop y1.2.toNat
 br (!(v22==rT)) (some (0,0,(-1))) (br (decide (y1.1 > 255)) (some (0,0,(-1))) (br (decide (y1.1 > 255)) (some (0,0,(-1))) (br (decide (y1.1≥0)) (br (decide (y1.1<y1.1)) (some (0,0,(-1))) (br (y1.1==0) (some (0,0,(-1))) (let v23:Int:=IntKind.wrap .i64 (y1.2+(rT.length:Int))
 some (y1.1,y1.1,v23)))) (br (y1.1==0) (some (0,0,(-1))) (let v24:Int:=IntKind.wrap .i64 (y1.2+(rT.length:Int))
 some (y1.1,y1.1,v24))))))))))
def xM (n:Nat) (g0:List (NdT)×Int×List (NdT)×Unit->Option (List (NdT))) (x1:List (NdT)×Int×List (NdT)×Unit):Option (List (NdT)) :=let l_2:=x1.1
 let i_3:=x1.2.1
 let Ky:=x1.2.2.1
 br (decide (i_3<(l_2.length:Int))) (chk (inB i_3 l_2.length) (let v5:Int×List (Int)×Int×Int×Int×Int×Int×Unit:=aR (Ty.dflt aD) l_2 i_3
 chk (Nat.ble ((Ky.length+([v5]:List (NdT)).length) * 80) room) (let v6:Int:=IntKind.wrap .i64 (i_3+1)
 g0 (l_2,v6,Ky++[v5],())))) (some Ky)
def zAw (n:Nat) (x:List (NdT)):Option (List (NdT)) :=let l_0:=x
 fix (xM n) n (l_0,0,[],())
def nG (n:Nat) (g0:List (NdT)×List (NdT)×Int×Unit->Option (Bool)) (x1:List (NdT)×List (NdT)×Int×Unit):Option (Bool) :=let a_2:=x1.1
 let b_3:=x1.2.1
 let i_4:=x1.2.2.1
 br (decide (i_4<(a_2.length:Int))) (chk (inB i_4 a_2.length) (let v5:Int×List (Int)×Int×Int×Int×Int×Int×Unit:=aR (Ty.dflt aD) a_2 i_4
 chk (inB i_4 b_3.length) (let v6:Int×List (Int)×Int×Int×Int×Int×Int×Unit:=aR (Ty.dflt aD) b_3 i_4
 br (!(Ty.beq aD v5 v6)) (some false) (let v7:Int:=IntKind.wrap .i64 (i_4+1)
 g0 (a_2,b_3,v7,()))))) (some true)
def sN (n:Nat) (x:List (NdT)×List (NdT)):Option (Bool) :=let a_0:=x.1
 let b_1:=x.2
 br ((a_0.length:Int) != (b_1.length:Int)) (some false) (fix (nG n) n (a_0,b_1,0,()))
end Go.Dec
