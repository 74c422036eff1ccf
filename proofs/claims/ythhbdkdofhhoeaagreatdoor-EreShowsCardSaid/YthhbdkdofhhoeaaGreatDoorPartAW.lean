/- Part of a proof over this seat: a library of my own, and what it says of this seat. No statement is proved here. -/
import Derived.Test.YthhbdkdofhhoeaaGreatDoorPartAL
import Derived.Test.YthhbdkdofhhoeaaGreatDoorPartAQ
namespace Go.Dec
set_option linter.unusedVariables false
abbrev aD:Ty:=.pair (.int .i64) (.pair (.arr 4 (.int .u64)) (.pair (.int .i64) (.pair (.int .i64) (.pair (.int .i64) (.pair (.int .i64) (.pair (.int .i64) .unit))))))
abbrev zZw:Ty:=.pair .str (.pair (.int .i64) .unit)
abbrev zAy:Ty:=.pair (.int .i64) (.pair (.int .i64) .unit)
abbrev vY:Ty:=.pair .str (.pair (.int .i64) (.pair (.slice aD) (.pair (.int .i64) (.pair (.arr 10 .bool) .unit))))
abbrev vZ:Ty:=.pair (.slice aD) (.pair (.int .i64) (.pair (.arr 10 .bool) zAy))
abbrev Qy:Ty:=.pair (.int .i64) (.pair (.int .i64) (.pair (.slice (.int .i64)) (.pair (.slice (.int .i64)) .unit)))
abbrev zP:Ty:=.pair .str (.pair (.int .i64) (.pair (.slice aD) (.pair (.int .i64) (.pair (.slice Qy) zAy))))
abbrev Qz:Ty:=.pair (.slice aD) (.pair (.int .i64) zAy)
abbrev zAz:Ty:=.pair .bool (.pair (.int .i64) (.pair (.arr 10 .bool) (.pair .bool .unit)))
abbrev NdT:Type:=Int × List (Int) × Int × Int × Int × Int × Int × Unit
def gP (n:Nat) (x:List UInt8×List UInt8):Option (Bool) :=let s_0:=x.1
 let Yd:=x.2
 br (decide ((s_0.length:Int)≥(Yd.length:Int))) (chk ((decide (0<=(Yd.length:Int))&&decide ((Yd.length:Int)<=(s_0.length:Int)))) (let v1:List UInt8:=s_0.take (Yd.length:Int).toNat
 some (v1==Yd))) (some false)
def strings_HasPrefix (n:Nat) (x:List UInt8×List UInt8):Option (Bool) :=let s_0:=x.1
 let Yd:=x.2
 ob (gP n (s_0,Yd)) fun y1 =>some y1
def zGg (n:Nat) (g0:Int×List (Int)×List (Int)×Unit->Option (List (Int))) (x1:Int×List (Int)×List (Int)×Unit):Option (List (Int)) :=let Ra:=x1.1
 let b3:=x1.2.1
 let b4:=x1.2.2.1
 br (decide (Ra < 4)) (chk (inB Ra 4) (chk (decide (Ra.toNat < 4)) (let v5:Int:=b3.getD (Ra.toNat) (Ty.dflt (.int .u64))
 let v6:Int:=cK .u64 .xor 18446744073709551615 v5
 chk (inB Ra 4) (chk (decide (Ra.toNat < 4)) (let v7:Int:=IntKind.wrap .i64 (Ra+1)
 g0 (v7,b3.set (Ra.toNat) v6,b4,())))))) (some b3)
def Ey (n:Nat) (x:List (Int)):Option (List (Int)) :=let s_0:=x
 fix (zGg n) n (0,s_0,[0,0,0,0],())
def eG (n:Nat) (x:List UInt8×List UInt8×Int×Unit):Option (Bool×List UInt8×Int×Unit) :=let t_1:=x.1
 let s2:=x.2.1
 let at3:=x.2.2.1
 chk ((decide (0<=at3)&&decide (at3<=(s2.length:Int)))) (ob (strings_HasPrefix n (s2.drop at3.toNat,t_1)) fun y4 =>some (y4,s2,at3,()))
def dR (n:Nat) (x:List UInt8×List UInt8×Int×Unit):Option (Bool×List UInt8×Int×Unit) :=let t_1:=x.1
 let s2:=x.2.1
 let at3:=x.2.2.1
 ob (eG n (t_1,s2,at3,())) fun y4 =>br (!y4.1) (some (false,y4.2.1,y4.2.2.1,())) (let v5:Int:=IntKind.wrap .i64 (y4.2.2.1+(t_1.length:Int))
 some (true,y4.2.1,v5,()))
def bJ (_n:Nat) (x:List UInt8×Int×Unit):Option (Sum (List UInt8×Int×Unit) (Int×Int×List UInt8×Int×Unit)):=some (.inr (42,0,x))
def oF (n:Nat) (g0:Int×Int×List (Int)×Unit->Option (List (Int))) (x1:Int×Int×List (Int)×Unit):Option (List (Int)) :=let b_2:=x1.1
 let i_3:=x1.2.1
 let b4:=x1.2.2.1
 br (decide (i_3<=(IntKind.wrap .i64 b_2))) (chk (decide (0<=6)) (chk (inB (gT .i64 i_3 6) 4) (chk (decide ((gT .i64 i_3 6).toNat < 4)) (let v5:Int:=b4.getD ((gT .i64 i_3 6).toNat) (Ty.dflt (.int .u64))
 chk (decide (0<=cK .i64 .and i_3 63)) (let v6:Int:=Pp .u64 1 (cK .i64 .and i_3 63)
 chk (inB (gT .i64 i_3 6) 4) (chk (decide ((gT .i64 i_3 6).toNat < 4)) (let v7:Int:=IntKind.wrap .i64 (i_3+1)
 g0 (b_2,v7,b4.set ((gT .i64 i_3 6).toNat) (cK .u64 .or v5 v6),())))))))) (some b4)
def dH (n:Nat) (x:Int×Int):Option (List (Int)) :=let a_0:=x.1
 let b_1:=x.2
 fix (oF n) n (b_1,IntKind.wrap .i64 a_0,[0,0,0,0],())
def Rb (n:Nat) (g0:List (List (Int))×Int×Int×List (Int)×Unit->Option (List (Int))) (g1:List (List (Int))×Int×Int×Int×List (Int)×List (Int)×Unit->Option (List (Int))) (x7:List (List (Int))×Int×Int×Int×List (Int)×List (Int)×Unit):Option (List (Int)) :=let yDt:=x7.1
 let yDu:=x7.2.1
 let zZx:=x7.2.2.1
 let tO:=x7.2.2.2.1
 let b12:=x7.2.2.2.2.1
 let b13:=x7.2.2.2.2.2.1
 br (decide (tO < 4)) (chk (inB tO 4) (chk (decide (tO.toNat < 4)) (let v14:Int:=b12.getD (tO.toNat) (Ty.dflt (.int .u64))
 chk (inB tO 4) (chk (decide (tO.toNat < 4)) (let v15:Int:=b13.getD (tO.toNat) (Ty.dflt (.int .u64))
 chk (inB tO 4) (chk (decide (tO.toNat < 4)) (let v16:Int:=IntKind.wrap .i64 (tO+1)
 g1 (yDt,yDu,zZx,v16,b12.set (tO.toNat) (cK .u64 .or v14 v15),b13,())))))))) (let v17:Int:=IntKind.wrap .i64 (zZx+1)
 g0 (yDt,yDu,v17,b12,()))
def yN (n:Nat) (g0:List (List (Int))×Int×Int×List (Int)×Unit->Option (List (Int))) (x1:List (List (Int))×Int×Int×List (Int)×Unit):Option (List (Int)) :=let zYb:=x1.1
 let yDv:=x1.2.1
 let zRk:=x1.2.2.1
 let b5:=x1.2.2.2.1
 br (decide (zRk<yDv)) (chk (inB zRk zYb.length) (let v6:List (Int):=bE (Ty.dflt (.arr 4 (.int .u64))) zYb zRk
 fix (Rb n g0) n (zYb,yDv,zRk,0,b5,v6,()))) (some b5)
def nG (n:Nat) (x:List (List (Int))):Option (List (Int)) :=let l_0:=x
 fix (yN n) n (l_0,(l_0.length:Int),0,[0,0,0,0],())
def yO (n:Nat) (g0:List UInt8×Int×Int×List (Int)×Unit->Option (List (Int))) (x1:List UInt8×Int×Int×List (Int)×Unit):Option (List (Int)) :=let s_2:=x1.1
 let zKd:=x1.2.1
 let Gg:=x1.2.2.1
 let b5:=x1.2.2.2.1
 br (decide (Gg<zKd)) (chk (inB Gg s_2.length) (let v6:Int:=((bE 0 s_2 Gg).toNat:Int)
 chk (decide (0<=6)) (chk (inB (gT .u8 v6 6) 4) (chk (decide ((gT .u8 v6 6).toNat < 4)) (let v7:Int:=b5.getD ((gT .u8 v6 6).toNat) (Ty.dflt (.int .u64))
 chk (inB Gg s_2.length) (let v8:Int:=((bE 0 s_2 Gg).toNat:Int)
 chk (decide (0<=cK .u8 .and v8 63)) (let v9:Int:=Pp .u64 1 (cK .u8 .and v8 63)
 chk (inB (gT .u8 v6 6) 4) (chk (decide ((gT .u8 v6 6).toNat < 4)) (let v10:Int:=IntKind.wrap .i64 (Gg+1)
 g0 (s_2,zKd,v10,b5.set ((gT .u8 v6 6).toNat) (cK .u64 .or v7 v9),())))))))))) (some b5)
def rO (n:Nat) (x:List UInt8):Option (List (Int)) :=let s_0:=x
 fix (yO n) n (s_0,(s_0.length:Int),0,[0,0,0,0],())
def Cn (n:Nat) (x:List UInt8):Option (List (Int)×Bool) :=let gF:=x
 ob (dH n (65,90)) fun y1 =>ob (dH n (97,122)) fun y2 =>ob (dH n (48,57)) fun y3 =>br (gF==[117,112,112,101,114]) (some (y1,true)) (br (gF==[108,111,119,101,114]) (some (y2,true)) (br (gF==[97,108,112,104,97]) (ob (nG n [y1,y2]) fun y4 =>some (y4,true)) (br (gF==[100,105,103,105,116]) (some (y3,true)) (br (gF==[97,108,110,117,109]) (ob (nG n [y1,y2,y3]) fun y5 =>some (y5,true)) (br (gF==[120,100,105,103,105,116]) (ob (dH n (65,70)) fun y6 =>ob (dH n (97,102)) fun y7 =>ob (nG n [y3,y6,y7]) fun y8 =>some (y8,true)) (br (gF==[98,108,97,110,107]) (ob (rO n [32,9]) fun y9 =>some (y9,true)) (br (gF==[115,112,97,99,101]) (ob (rO n [32,9,10,11,12,13]) fun y10 =>some (y10,true)) (br (gF==[99,110,116,114,108]) (ob (dH n (0,31)) fun y11 =>ob (rO n [127]) fun y12 =>ob (nG n [y11,y12]) fun y13 =>some (y13,true)) (br (gF==[103,114,97,112,104]) (ob (dH n (33,126)) fun y14 =>some (y14,true)) (br (gF==[112,114,105,110,116]) (ob (dH n (32,126)) fun y15 =>some (y15,true)) (br (gF==[112,117,110,99,116]) (ob (dH n (33,47)) fun y16 =>ob (dH n (58,64)) fun y17 =>ob (dH n (91,96)) fun y18 =>ob (dH n (123,126)) fun y19 =>ob (nG n [y16,y17,y18,y19]) fun y20 =>some (y20,true)) (some ([0,0,0,0],false)))))))))))))
def oW (n:Nat) (x21:List UInt8×List UInt8×Int×Unit):Option (Sum (Int×Bool×List UInt8×Int×Unit) (Int×Int×List UInt8×Int×Unit)) :=let yBc:=x21.1
 let s23:=x21.2.1
 let zYc:=x21.2.2.1
 chk (inB zYc s23.length) (let v25:Int:=((bE 0 s23 zYc).toNat:Int)
 let v26:Int:=IntKind.wrap .i64 (zYc+3)
 some (.inl (v25,(yBc==[46]),s23,v26,())))
def iR (n:Nat) (x41:List UInt8×Int×Unit):Option (Sum (Int×Bool×List UInt8×Int×Unit) (Int×Int×List UInt8×Int×Unit)) :=let s42:=x41.1
 let yHr:=x41.2.1
 let v44:Int:=IntKind.wrap .i64 (yHr+1)
 let v45:Int:=IntKind.wrap .i64 (v44 - 1)
 chk (inB v45 s42.length) (let v46:Int:=((bE 0 s42 v45).toNat:Int)
 some (.inl (v46,true,s42,v44,())))
def gJ (n:Nat) (x30:Bool×Bool×List UInt8×Int×Unit):Option (Sum (Int×Bool×List UInt8×Int×Unit) (Int×Int×List UInt8×Int×Unit)) :=let zYd:=x30.1
 let zOg:=x30.2.1
 let s33:=x30.2.2.1
 let zYe:=x30.2.2.2.1
 br (zYe==(s33.length:Int)) (ob2 (bJ n (s33,zYe,())) (fun y35 =>none) (fun y35 =>some (.inr (y35.1,y35.2.1,y35.2.2.1,y35.2.2.2.1,())))) (ob (eG n ([91,58],s33,zYe,())) fun y36 =>br y36.1 (ob2 (bJ n (y36.2.1,y36.2.2.1,())) (fun y37 =>none) (fun y37 =>some (.inr (y37.1,y37.2.1,y37.2.2.1,y37.2.2.2.1,())))) (ob (eG n ([93],y36.2.1,y36.2.2.1,())) fun y38 =>br y38.1 (br (!zYd) (ob2 (bJ n (y38.2.1,y38.2.2.1,())) (fun y39 =>none) (fun y39 =>some (.inr (y39.1,y39.2.1,y39.2.2.1,y39.2.2.2.1,())))) (br zOg (ob2 (bJ n (y38.2.1,y38.2.2.1,())) (fun y40 =>none) (fun y40 =>some (.inr (y40.1,y40.2.1,y40.2.2.1,y40.2.2.2.1,())))) (jn (iR n) (y38.2.1,y38.2.2.1,())))) (br zOg (ob2 (bJ n (y38.2.1,y38.2.2.1,())) (fun y47 =>none) (fun y47 =>some (.inr (y47.1,y47.2.1,y47.2.2.1,y47.2.2.2.1,())))) (jn (iR n) (y38.2.1,y38.2.2.1,())))))
def kQ (n:Nat) (g0:Bool×Bool×Int×Int×List UInt8×Int×List (List UInt8)×Unit->Option (Sum (Int×Bool×List UInt8×Int×Unit) (Int×Int×List UInt8×Int×Unit))) (x6:Bool×Bool×Int×Int×List UInt8×Int×List (List UInt8)×Unit):Option (Sum (Int×Bool×List UInt8×Int×Unit) (Int×Int×List UInt8×Int×Unit)) :=let Ez:=x6.1
 let zUg:=x6.2.1
 let zZy:=x6.2.2.1
 let Rc:=x6.2.2.2.1
 let s11:=x6.2.2.2.2.1
 let zKe:=x6.2.2.2.2.2.1
 let Ut:=x6.2.2.2.2.2.2.1
 br (decide (Rc<zZy)) (chk ((inB Rc (Ut.length)&&decide (0+(Ut.length)<=Ut.length))) (chk (decide (0+Rc.toNat<Ut.length)) (let v14:List UInt8:=Ut.getD (0+Rc.toNat) (Ty.dflt .str)
 chk (decide ([91].length+v14.length<=aH)) (ob (dR n ([91]++v14,s11,zKe,())) fun y15 =>br (!y15.1) (let v16:Int:=IntKind.wrap .i64 (Rc+1)
 g0 (Ez,zUg,zZy,v16,y15.2.1,y15.2.2.1,Ut,())) (br ((y15.2.1.length:Int)==y15.2.2.1) (ob2 (bJ n (y15.2.1,y15.2.2.1,())) (fun y17 =>none) (fun y17 =>some (.inr (y17.1,y17.2.1,y17.2.2.1,y17.2.2.2.1,())))) (let v18:Int:=IntKind.wrap .i64 (y15.2.2.1+1)
 chk ((decide (0<=v18)&&decide (v18<=(y15.2.1.length:Int)))) (chk (decide (v14.length+([93]:List UInt8).length<=aH)) (ob (strings_HasPrefix n (y15.2.1.drop v18.toNat,v14++[93])) fun y19 =>br (!y19) (ob2 (bJ n (y15.2.1,y15.2.2.1,())) (fun y20 =>none) (fun y20 =>some (.inr (y20.1,y20.2.1,y20.2.2.1,y20.2.2.2.1,())))) (jn (oW n) (v14,y15.2.1,y15.2.2.1,())))))))))) (ob (dR n ([92,110],s11,zKe,())) fun y27 =>br y27.1 (some (.inl (10,true,y27.2.1,y27.2.2.1,()))) (ob (eG n ([45],y27.2.1,y27.2.2.1,())) fun y28 =>br y28.1 (br (!Ez) (br (!zUg) (ob (eG n ([45,93],y28.2.1,y28.2.2.1,())) fun y29 =>jn (gJ n) (Ez,(!y29.1),y29.2.1,y29.2.2.1,())) (jn (gJ n) (Ez,false,y28.2.1,y28.2.2.1,()))) (jn (gJ n) (Ez,false,y28.2.1,y28.2.2.1,()))) (jn (gJ n) (Ez,false,y28.2.1,y28.2.2.1,()))))
def kI (n:Nat) (x:Bool×Bool×List UInt8×Int×Unit):Option (Sum (Int×Bool×List UInt8×Int×Unit) (Int×Int×List UInt8×Int×Unit)) :=let zDp:=x.1
 let yDw:=x.2.1
 let s3:=x.2.2.1
 let at4:=x.2.2.2.1
 let v5:Int:=(([[46],[61]].length:Nat):Int)
 fix (kQ n) n (zDp,yDw,v5,0,s3,at4,[[46],[61]],())
def lS (n:Nat) (x:Bool×List UInt8×Int×Unit):Option (Sum (List (Int)×List UInt8×Int×Unit) (Int×Int×List UInt8×Int×Unit)) :=let zDp:=x.1
 let s2:=x.2.1
 let at3:=x.2.2.1
 ob (dR n ([91,58],s2,at3,())) fun y4 =>br y4.1 (chk ((decide (0<=y4.2.2.1)&&decide (y4.2.2.1<=(y4.2.1.length:Int)))) (let v5:List UInt8:=y4.2.1.drop y4.2.2.1.toNat
 ob (strings_Cut n (v5,[58,93])) fun y6 =>let v7:Int:=IntKind.wrap .i64 (y4.2.2.1+(y6.1.length:Int))
 ob (Cn n y6.1) fun y8 =>br (!y8.2) (ob2 (bJ n (y4.2.1,v7,())) (fun y9 =>none) (fun y9 =>some (.inr (y9.1,y9.2.1,y9.2.2.1,y9.2.2.2.1,())))) (ob (dR n ([58,93],y4.2.1,v7,())) fun y10 =>br (!y10.1) (ob2 (bJ n (y10.2.1,y10.2.2.1,())) (fun y11 =>none) (fun y11 =>some (.inr (y11.1,y11.2.1,y11.2.2.1,y11.2.2.2.1,())))) (some (.inl (y8.1,y10.2.1,y10.2.2.1,())))))) (ob2 (kI n (zDp,false,y4.2.1,y4.2.2.1,())) (fun y12 =>ob (eG n ([45],y12.2.2.1,y12.2.2.2.1,())) fun y13 =>br (!y13.1) (ob (dH n (y12.1,y12.1)) fun y14 =>some (.inl (y14,y13.2.1,y13.2.2.1,()))) (ob (eG n ([45,93],y13.2.1,y13.2.2.1,())) fun y15 =>br y15.1 (ob (dH n (y12.1,y12.1)) fun y16 =>some (.inl (y16,y15.2.1,y15.2.2.1,()))) (let v17:Int:=IntKind.wrap .i64 (y15.2.2.1+1)
 br (v17==(y15.2.1.length:Int)) (ob (dH n (y12.1,y12.1)) fun y18 =>some (.inl (y18,y15.2.1,y15.2.2.1,()))) (let v19:Int:=IntKind.wrap .i64 (y15.2.2.1+1)
 ob2 (kI n (false,true,y15.2.1,v19,())) (fun y20 =>br (!y12.2.1) (ob2 (bJ n (y20.2.2.1,y20.2.2.2.1,())) (fun y21 =>none) (fun y21 =>some (.inr (y21.1,y21.2.1,y21.2.2.1,y21.2.2.2.1,())))) (br (!y20.2.1) (ob2 (bJ n (y20.2.2.1,y20.2.2.2.1,())) (fun y22 =>none) (fun y22 =>some (.inr (y22.1,y22.2.1,y22.2.2.1,y22.2.2.2.1,())))) (br (decide (y20.1<y12.1)) (ob2 (bJ n (y20.2.2.1,y20.2.2.2.1,())) (fun y23 =>none) (fun y23 =>some (.inr (y23.1,y23.2.1,y23.2.2.1,y23.2.2.2.1,())))) (ob (dH n (y12.1,y20.1)) fun y24 =>some (.inl (y24,y20.2.2.1,y20.2.2.2.1,())))))) (fun y20 =>some (.inr (y20.1,y20.2.1,y20.2.2.1,y20.2.2.2.1,()))))))) (fun y12 =>some (.inr (y12.1,y12.2.1,y12.2.2.1,y12.2.2.2.1,()))))
def kC (n:Nat) (g0:Bool×Bool×List (Int)×List UInt8×Int×Unit->Option (Sum (List (Int)×List UInt8×Int×Unit) (Int×Int×List (Int)×List UInt8×Int×Unit))) (x7:Bool×Bool×List (Int)×List UInt8×Int×Unit):Option (Sum (List (Int)×List UInt8×Int×Unit) (Int×Int×List (Int)×List UInt8×Int×Unit)) :=let zRl:=x7.1
 let zDq:=x7.2.1
 let b10:=x7.2.2.1
 let s11:=x7.2.2.2.1
 let zKe:=x7.2.2.2.2.1
 br zDq (ob2 (lS n (zDq,s11,zKe,())) (fun y13 =>ob (nG n [b10,y13.1]) fun y14 =>g0 (zRl,false,y14,y13.2.1,y13.2.2.1,())) (fun y13 =>some (.inr (y13.1,y13.2.1,b10,y13.2.2.1,y13.2.2.2.1,())))) (ob (dR n ([93],s11,zKe,())) fun y15 =>br (!y15.1) (ob2 (lS n (zDq,y15.2.1,y15.2.2.1,())) (fun y16 =>ob (nG n [b10,y16.1]) fun y17 =>g0 (zRl,false,y17,y16.2.1,y16.2.2.1,())) (fun y16 =>some (.inr (y16.1,y16.2.1,b10,y16.2.2.1,y16.2.2.2.1,())))) (br zRl (ob (Ey n b10) fun y18 =>br (Ty.beq (.arr 4 (.int .u64)) y18 ([0,0,0,0])) (ob2 (bJ n (y15.2.1,y15.2.2.1,())) (fun y19 =>none) (fun y19 =>some (.inr (y19.1,y19.2.1,y18,y19.2.2.1,y19.2.2.2.1,())))) (some (.inl (y18,y15.2.1,y15.2.2.1,())))) (br (Ty.beq (.arr 4 (.int .u64)) b10 ([0,0,0,0])) (ob2 (bJ n (y15.2.1,y15.2.2.1,())) (fun y20 =>none) (fun y20 =>some (.inr (y20.1,y20.2.1,b10,y20.2.2.1,y20.2.2.2.1,())))) (some (.inl (b10,y15.2.1,y15.2.2.1,()))))))
def jT (n:Nat) (x:List (Int)×List UInt8×Int×Unit):Option (Sum (List (Int)×List UInt8×Int×Unit) (Int×Int×List (Int)×List UInt8×Int×Unit)) :=let b1:=x.1
 let s2:=x.2.1
 let at3:=x.2.2.1
 ob (dR n ([91],s2,at3,())) fun y4 =>br (!y4.1) (ob2 (bJ n (y4.2.1,y4.2.2.1,())) (fun y5 =>none) (fun y5 =>some (.inr (y5.1,y5.2.1,b1,y5.2.2.1,y5.2.2.2.1,())))) (ob (dR n ([94],y4.2.1,y4.2.2.1,())) fun y6 =>fix (kC n) n (y6.1,true,b1,y6.2.1,y6.2.2.1,()))
def fH (n:Nat) (x:List (Int)×List UInt8×Int×Unit):Option (Int×Int×List (Int)×List UInt8×Int×Unit):=ob2 (jT n x) (fun y=>some (0,0,y)) (fun y=>some y)
def oZ (n:Nat) (x:List UInt8):Option (List (Int)×Int×Int) :=let s_0:=x
 ob (fH n ([0,0,0,0],s_0,0,())) fun y1 =>br (y1.1 != 0) (some ([0,0,0,0],0,y1.1)) (some (y1.2.2.1,y1.2.2.2.2.1,0))
def rP (n:Nat) (x:Int×List (Int)×Int×Int×Int×Int×Int×Unit):Option (Int) :=let n_0:=x
 br (n_0.1==4) (br (n_0.1==4) (some 2) (br (n_0.1==6) (br (n_0.1==6) (some 1) (some 0)) (br (n_0.1==7) (some 1) (some 0)))) (br (n_0.1==5) (some 2) (br (n_0.1==6) (br (n_0.1==6) (some 1) (some 0)) (br (n_0.1==7) (some 1) (some 0))))
def Db (n:Nat) (x:Int×List (Int)×Int×Int×Int×Int×Int×Unit):Option (NdT) :=let n_0:=x
 br (n_0.1==1) (some (n_0.1,(n_0.2.1,(0,(0,(0,(0,(0,())))))))) (br (n_0.1==4) (br (n_0.1==4) (some (n_0.1,([0,0,0,0],(n_0.2.2.1,(n_0.2.2.2.1,(0,(0,(0,())))))))) (br (n_0.1==6) (some (n_0.1,([0,0,0,0],(n_0.2.2.1,(0,(n_0.2.2.2.2.1,(n_0.2.2.2.2.2.1,(0,())))))))) (br (n_0.1==7) (some (n_0.1,([0,0,0,0],(n_0.2.2.1,(0,(0,(0,n_0.2.2.2.2.2.2))))))) (br (n_0.1==8) (some (n_0.1,([0,0,0,0],(0,(0,(0,(0,n_0.2.2.2.2.2.2))))))) (some (n_0.1,([0,0,0,0],(0,(0,(0,(0,(0,())))))))))))) (br (n_0.1==5) (some (n_0.1,([0,0,0,0],(n_0.2.2.1,(n_0.2.2.2.1,(0,(0,(0,())))))))) (br (n_0.1==6) (some (n_0.1,([0,0,0,0],(n_0.2.2.1,(0,(n_0.2.2.2.2.1,(n_0.2.2.2.2.2.1,(0,())))))))) (br (n_0.1==7) (some (n_0.1,([0,0,0,0],(n_0.2.2.1,(0,(0,(0,n_0.2.2.2.2.2.2))))))) (br (n_0.1==8) (some (n_0.1,([0,0,0,0],(0,(0,(0,(0,n_0.2.2.2.2.2.2))))))) (some (n_0.1,([0,0,0,0],(0,(0,(0,(0,(0,())))))))))))))
def Jg(n:Nat)(x:Int × List (Int) × Int × Int × Int × Int × Int × Unit):Option (Bool):=
 let n_0:Int × List (Int) × Int × Int × Int × Int × Int × Unit:=x
 br (decide (n_0.1<0)) (
  some false) (
  br (decide (n_0.1>8)) (
   some false) (
   ob (Db n n_0) λy1 =>
   br (!(Ty.beq aD n_0 y1)) (
    some false) (
    br (n_0.1==1) (
     some (!(Ty.beq (.arr 4 (.int .u64)) n_0.2.1 ([0,0,0,0])))) (
     br (n_0.1==6) (
      br (decide (n_0.2.2.2.2.1≥0)) (
       br (decide (n_0.2.2.2.2.1<=255)) (
        br (n_0.2.2.2.2.2.1==(-1)) (
         some true) (
         let v2:Int:=if 1>n_0.2.2.2.2.1 then 1 else n_0.2.2.2.2.1
         br (decide (n_0.2.2.2.2.2.1≥v2)) (
          some (decide (n_0.2.2.2.2.2.1<=255))) (
          some false))) (
        some false)) (
       some false)) (
      br (n_0.1==7) (
       br (n_0.1==7) (
        br (decide (n_0.2.2.2.2.2.2.1≥1)) (
         some (decide (n_0.2.2.2.2.2.2.1<=9))) (
         some false)) (
        some true)) (
       br (n_0.1==8) (
        br (decide (n_0.2.2.2.2.2.2.1≥1)) (
         some (decide (n_0.2.2.2.2.2.2.1<=9))) (
         some false)) (
        some true)))))))
def Jh (n:Nat) (g0:List (Int)×Int×Int×Int×Unit->Option (Int)) (x1:List (Int)×Int×Int×Int×Unit):Option (Int) :=let s_2:=x1.1
 let v_3:=x1.2.1
 let nS:=x1.2.2.1
 let zKf:=x1.2.2.2.1
 br (decide (zKf<nS)) (chk (inB zKf s_2.length) (let v6:Int:=bE (Ty.dflt (.int .i64)) s_2 zKf
 br (v_3==v6) (some zKf) (let v7:Int:=IntKind.wrap .i64 (zKf+1)
 g0 (s_2,v_3,nS,v7,())))) (some (-1))
def wV (n:Nat) (x:List (Int)×Int):Option (Int) :=let s_0:=x.1
 let v_1:=x.2
 fix (Jh n) n (s_0,v_1,(s_0.length:Int),0,())
def sF (n:Nat) (x:List (Int)×Int):Option (Bool) :=let s_0:=x.1
 let v_1:=x.2
 ob (wV n (s_0,v_1)) fun y1 =>some (decide (y1≥0))
def xQ (n:Nat) (x:List (NdT)×Int×List (Int)×Int×Int×Int×Int×Int×Unit):Option (Bool) :=let l_0:=x.1
 let n_1:=x.2
 br (n_1.1==4) (chk (inB n_1.2.2.1 l_0.length) (let v1:Int×List (Int)×Int×Int×Int×Int×Int×Unit:=bE (Ty.dflt aD) l_0 n_1.2.2.1
 br (v1.1 != 4) (chk (inB n_1.2.2.1 l_0.length) (let v2:Int×List (Int)×Int×Int×Int×Int×Int×Unit:=bE (Ty.dflt aD) l_0 n_1.2.2.1
 br (v2.1 != 5) (chk (inB n_1.2.2.2.1 l_0.length) (let v3:Int×List (Int)×Int×Int×Int×Int×Int×Unit:=bE (Ty.dflt aD) l_0 n_1.2.2.2.1
 some (v3.1 != 5))) (some false))) (some false))) (br (n_1.1==5) (chk (inB n_1.2.2.1 l_0.length) (let v4:Int×List (Int)×Int×Int×Int×Int×Int×Unit:=bE (Ty.dflt aD) l_0 n_1.2.2.1
 some (v4.1 != 5))) (br (n_1.1==6) (chk (inB n_1.2.2.1 l_0.length) (let v5:Int×List (Int)×Int×Int×Int×Int×Int×Unit:=bE (Ty.dflt aD) l_0 n_1.2.2.1
 ob (sF n ([1,7,8],v5.1)) fun y6 =>some y6)) (some true)))
def Ye (n:Nat) (g0:List (NdT)×List (NdT)×Int×Int×List (Int)×Unit->Option (Bool)) (x1:List (NdT)×List (NdT)×Int×Int×List (Int)×Unit):Option (Bool) :=let l_2:=x1.1
 let Rf:=x1.2.1
 let Yf:=x1.2.2.1
 let kR:=x1.2.2.2.1
 let aY:=x1.2.2.2.2.1
 br (decide (kR<Yf)) (chk (inB kR Rf.length) (let v7:Int×List (Int)×Int×Int×Int×Int×Int×Unit:=bE (Ty.dflt aD) Rf kR
 let v8:Int:=((aY.length:Nat):Int)
 ob (rP n v7) fun y9 =>let v10:Int:=IntKind.wrap .i64 (v8-y9)
 ob (Jg n v7) fun y11 =>br (!y11) (some false) (br (decide (v10 < 0)) (some false) (br (v7.1==0) (br (decide ((l_2.length:Int) > 1)) (some false) (chk ((decide (0<=v10)&&decide (v10<=(aY.length:Int)))) (let v12:Int:=(((aY.length)-(v10.toNat):Nat):Int)
 br (decide (v12 > 0)) (chk ((inB 0 ((aY.length)-(v10.toNat))&&decide ((0+(v10.toNat))+((aY.length)-(v10.toNat))<=aY.length))) (chk (decide ((0+(v10.toNat))+(0:Int).toNat<aY.length)) (let v13:Int:=aY.getD ((0+(v10.toNat))+(0:Int).toNat) (Ty.dflt (.int .i64))
 br (v13 != v7.2.2.1) (some false) (let v14:Int:=(((aY.length)-(v10.toNat):Nat):Int)
 br (decide (v14 > 1)) (chk ((inB 1 ((aY.length)-(v10.toNat))&&decide ((0+(v10.toNat))+((aY.length)-(v10.toNat))<=aY.length))) (chk (decide ((0+(v10.toNat))+(1:Int).toNat<aY.length)) (let v15:Int:=aY.getD ((0+(v10.toNat))+(1:Int).toNat) (Ty.dflt (.int .i64))
 br (v15 != v7.2.2.2.1) (some false) (ob (xQ n (l_2,v7)) fun y16 =>br (!y16) (some false) (chk ((decide (0<=v10)&&decide (v10<=(aY.length:Int)))) (chk ((Nat.ble (v10.toNat) aY.length&&Nat.ble (((v10.toNat)+([kR]:List (Int)).length) * 8) room)) (let r17:List (Int):=aY.take (v10.toNat)++[kR]
 let v18:Int:=IntKind.wrap .i64 (kR+1)
 g0 (l_2,Rf,Yf,v18,r17,())))))))) (ob (xQ n (l_2,v7)) fun y19 =>br (!y19) (some false) (chk ((decide (0<=v10)&&decide (v10<=(aY.length:Int)))) (chk ((Nat.ble (v10.toNat) aY.length&&Nat.ble (((v10.toNat)+([kR]:List (Int)).length) * 8) room)) (let r20:List (Int):=aY.take (v10.toNat)++[kR]
 let v21:Int:=IntKind.wrap .i64 (kR+1)
 g0 (l_2,Rf,Yf,v21,r20,()))))))))) (ob (xQ n (l_2,v7)) fun y22 =>br (!y22) (some false) (chk ((decide (0<=v10)&&decide (v10<=(aY.length:Int)))) (chk ((Nat.ble (v10.toNat) aY.length&&Nat.ble (((v10.toNat)+([kR]:List (Int)).length) * 8) room)) (let r23:List (Int):=aY.take (v10.toNat)++[kR]
 let v24:Int:=IntKind.wrap .i64 (kR+1)
 g0 (l_2,Rf,Yf,v24,r23,())))))))) (chk ((decide (0<=v10)&&decide (v10<=(aY.length:Int)))) (let v25:Int:=(((aY.length)-(v10.toNat):Nat):Int)
 br (decide (v25 > 0)) (chk ((inB 0 ((aY.length)-(v10.toNat))&&decide ((0+(v10.toNat))+((aY.length)-(v10.toNat))<=aY.length))) (chk (decide ((0+(v10.toNat))+(0:Int).toNat<aY.length)) (let v26:Int:=aY.getD ((0+(v10.toNat))+(0:Int).toNat) (Ty.dflt (.int .i64))
 br (v26 != v7.2.2.1) (some false) (let v27:Int:=(((aY.length)-(v10.toNat):Nat):Int)
 br (decide (v27 > 1)) (chk ((inB 1 ((aY.length)-(v10.toNat))&&decide ((0+(v10.toNat))+((aY.length)-(v10.toNat))<=aY.length))) (chk (decide ((0+(v10.toNat))+(1:Int).toNat<aY.length)) (let v28:Int:=aY.getD ((0+(v10.toNat))+(1:Int).toNat) (Ty.dflt (.int .i64))
 br (v28 != v7.2.2.2.1) (some false) (ob (xQ n (l_2,v7)) fun y29 =>br (!y29) (some false) (chk ((decide (0<=v10)&&decide (v10<=(aY.length:Int)))) (chk ((Nat.ble (v10.toNat) aY.length&&Nat.ble (((v10.toNat)+([kR]:List (Int)).length) * 8) room)) (let r30:List (Int):=aY.take (v10.toNat)++[kR]
 let v31:Int:=IntKind.wrap .i64 (kR+1)
 g0 (l_2,Rf,Yf,v31,r30,())))))))) (ob (xQ n (l_2,v7)) fun y32 =>br (!y32) (some false) (chk ((decide (0<=v10)&&decide (v10<=(aY.length:Int)))) (chk ((Nat.ble (v10.toNat) aY.length&&Nat.ble (((v10.toNat)+([kR]:List (Int)).length) * 8) room)) (let r33:List (Int):=aY.take (v10.toNat)++[kR]
 let v34:Int:=IntKind.wrap .i64 (kR+1)
 g0 (l_2,Rf,Yf,v34,r33,()))))))))) (ob (xQ n (l_2,v7)) fun y35 =>br (!y35) (some false) (chk ((decide (0<=v10)&&decide (v10<=(aY.length:Int)))) (chk ((Nat.ble (v10.toNat) aY.length&&Nat.ble (((v10.toNat)+([kR]:List (Int)).length) * 8) room)) (let r36:List (Int):=aY.take (v10.toNat)++[kR]
 let v37:Int:=IntKind.wrap .i64 (kR+1)
 g0 (l_2,Rf,Yf,v37,r36,()))))))))))) (let v38:Int:=((aY.length:Nat):Int)
 some (v38==1))
def Nf (n:Nat) (x:List (NdT)):Option (Bool) :=let l_0:=x
 fix (Ye n) n (l_0,l_0,(l_0.length:Int),0,[],())
def Cq (n:Nat) (dO:(Int×List (NdT)×Int×Bool×List (Bool)×Bool×Unit)->Option (List (NdT)×Int×Bool×List (Bool)×Bool×Unit)) (x:Int×List (NdT)×Int×Bool×List (Bool)×Bool×Unit):Option (List (NdT)×Int×Bool×List (Bool)×Bool×Unit) :=let i_1:=x.1
 let b2:=x.2.1
 let b3:=x.2.2.1
 let b4:=x.2.2.2.1
 let b5:=x.2.2.2.2.1
 let b6:=x.2.2.2.2.2.1
 chk (inB i_1 b2.length) (let v7:Int×List (Int)×Int×Int×Int×Int×Int×Unit:=bE (Ty.dflt aD) b2 i_1
 br (v7.1==4) (br (v7.1==4) (ob (dO (v7.2.2.1,b2,b3,b4,b5,b6,())) fun y8 =>ob (dO (v7.2.2.2.1,y8.1,y8.2.1,y8.2.2.1,y8.2.2.2.1,y8.2.2.2.2.1,())) fun y9 =>some (y9.1,y9.2.1,y9.2.2.1,y9.2.2.2.1,y9.2.2.2.2.1,())) (br (v7.1==6) (ob (dO (v7.2.2.1,b2,b3,b4,b5,b6,())) fun y10 =>some (y10.1,y10.2.1,y10.2.2.1,y10.2.2.2.1,y10.2.2.2.2.1,())) (br (v7.1==7) (let v11:Int:=IntKind.wrap .i64 (b3+1)
 br b4 (ob (dO (v7.2.2.1,b2,v11,(v7.2.2.2.2.2.2.1==v11),b5,b6,())) fun y12 =>chk (inB v7.2.2.2.2.2.2.1 10) (chk (decide (v7.2.2.2.2.2.2.1.toNat < 10)) (some (y12.1,y12.2.1,y12.2.2.1,y12.2.2.2.1.set (v7.2.2.2.2.2.2.1.toNat) true,y12.2.2.2.2.1,())))) (ob (dO (v7.2.2.1,b2,v11,false,b5,b6,())) fun y13 =>chk (inB v7.2.2.2.2.2.2.1 10) (chk (decide (v7.2.2.2.2.2.2.1.toNat < 10)) (some (y13.1,y13.2.1,y13.2.2.1,y13.2.2.2.1.set (v7.2.2.2.2.2.2.1.toNat) true,y13.2.2.2.2.1,()))))) (br (v7.1==8) (br b4 (chk (inB v7.2.2.2.2.2.2.1 10) (chk (decide (v7.2.2.2.2.2.2.1.toNat < 10)) (some (b2,b3,b5.getD (v7.2.2.2.2.2.2.1.toNat) (Ty.dflt .bool),b5,true,())))) (some (b2,b3,false,b5,true,()))) (some (b2,b3,b4,b5,b6,())))))) (br (v7.1==5) (ob (dO (v7.2.2.1,b2,b3,b4,b5,b6,())) fun y14 =>ob (dO (v7.2.2.2.1,y14.1,y14.2.1,y14.2.2.1,y14.2.2.2.1,y14.2.2.2.2.1,())) fun y15 =>some (y15.1,y15.2.1,y15.2.2.1,y15.2.2.2.1,y15.2.2.2.2.1,())) (br (v7.1==6) (ob (dO (v7.2.2.1,b2,b3,b4,b5,b6,())) fun y16 =>some (y16.1,y16.2.1,y16.2.2.1,y16.2.2.2.1,y16.2.2.2.2.1,())) (br (v7.1==7) (let v17:Int:=IntKind.wrap .i64 (b3+1)
 br b4 (ob (dO (v7.2.2.1,b2,v17,(v7.2.2.2.2.2.2.1==v17),b5,b6,())) fun y18 =>chk (inB v7.2.2.2.2.2.2.1 10) (chk (decide (v7.2.2.2.2.2.2.1.toNat < 10)) (some (y18.1,y18.2.1,y18.2.2.1,y18.2.2.2.1.set (v7.2.2.2.2.2.2.1.toNat) true,y18.2.2.2.2.1,())))) (ob (dO (v7.2.2.1,b2,v17,false,b5,b6,())) fun y19 =>chk (inB v7.2.2.2.2.2.2.1 10) (chk (decide (v7.2.2.2.2.2.2.1.toNat < 10)) (some (y19.1,y19.2.1,y19.2.2.1,y19.2.2.2.1.set (v7.2.2.2.2.2.2.1.toNat) true,y19.2.2.2.2.1,()))))) (br (v7.1==8) (br b4 (chk (inB v7.2.2.2.2.2.2.1 10) (chk (decide (v7.2.2.2.2.2.2.1.toNat < 10)) (some (b2,b3,b5.getD (v7.2.2.2.2.2.2.1.toNat) (Ty.dflt .bool),b5,true,())))) (some (b2,b3,false,b5,true,()))) (some (b2,b3,b4,b5,b6,())))))))
def Dc (n:Nat):(Int×List (NdT)×Int×Bool×List (Bool)×Bool×Unit)->Option (List (NdT)×Int×Bool×List (Bool)×Bool×Unit) :=zXs (fun n r x=>Cq n r x) n
def Ji (n:Nat) (x:List (NdT)):Option (Int×Bool×Bool) :=let l_0:=x
 let v1:Int:=IntKind.wrap .i64 ((l_0.length:Int) - 1)
 ob (Dc n (v1,l_0,0,true,[false,false,false,false,false,false,false,false,false,false],false,())) fun y2 =>some (y2.2.1,y2.2.2.2.2.1,y2.2.2.1)
def Ku (n:Nat) (x:List (NdT)):Option (Int×Bool×Bool) :=let l_0:=x
 br ((l_0.length:Int)==0) (some (0,false,false)) (br (decide ((l_0.length:Int) > 120)) (some (0,false,false)) (ob (Nf n l_0) fun y1 =>br (!y1) (some (0,false,false)) (ob (Ji n l_0) fun y2 =>br (!y2.2.2) (some (0,false,false)) (some (y2.1,y2.2.1,true)))))
def Rh (n:Nat) (x:List (NdT)):Option (Bool) :=let l_0:=x
 ob (Ku n l_0) fun y1 =>some y1.2.2
def Gh (n:Nat) (x:Int):Option (List UInt8) :=let b_0:=x
 br (b_0==10) (some [92,110]) (ob (strings_IndexByte n ([46,91,92,42,94,36],b_0)) fun y1 =>br (decide (y1≥0)) (chk (decide ([92].length+(dZ [b_0]).length<=aH)) (some ([92]++(dZ [b_0])))) (some (dZ [b_0])))
def rZ (n:Nat) (x:List (Int)×Int):Option (Bool) :=let s_0:=x.1
 let b_1:=x.2
 chk (decide (0<=6)) (chk (inB (gT .u8 b_1 6) 4) (chk (decide ((gT .u8 b_1 6).toNat < 4)) (let v1:Int:=s_0.getD ((gT .u8 b_1 6).toNat) (Ty.dflt (.int .u64))
 chk (decide (0<=cK .u8 .and b_1 63)) (let v2:Int:=gT .u64 v1 (cK .u8 .and b_1 63)
 some ((cK .u64 .and v2 1)==1)))))
def uL (n:Nat) (g0:List UInt8×Int×Int×List (List UInt8)×Unit->Option (List (List UInt8))) (x1:List UInt8×Int×Int×List (List UInt8)×Unit):Option (List (List UInt8)) :=let s_2:=x1.1
 let zRm:=x1.2.1
 let nS:=x1.2.2.1
 let vH:=x1.2.2.2.1
 br (decide (nS<zRm)) (let v6:Int:=((vH.length:Nat):Int)
 let v7:Int:=IntKind.wrap .i64 (v6 - 1)
 br (decide (v7≥0)) (chk (inB nS s_2.length) (let v8:Int:=((bE 0 s_2 nS).toNat:Int)
 let v9:Int:=IntKind.wrap .i64 (nS - 1)
 chk (inB v9 s_2.length) (let v10:Int:=((bE 0 s_2 v9).toNat:Int)
 let v11:Int:=IntKind.wrap .u8 (v10+1)
 br (v8==v11) (chk ((inB v7 (vH.length)&&decide (0+(vH.length)<=vH.length))) (chk (decide (0+v7.toNat<vH.length)) (let v12:List UInt8:=vH.getD (0+v7.toNat) (Ty.dflt .str)
 let v13:Int:=IntKind.wrap .i64 (nS+1)
 chk ((decide (0<=v13)&&decide (v13<=(s_2.length:Int))&&(decide (0<=nS)&&decide (nS<=v13)))) (let v14:List UInt8:=(s_2.take v13.toNat).drop nS.toNat
 chk (decide (v12.length+v14.length<=aH)) (chk ((inB v7 (vH.length)&&decide (0+(vH.length)<=vH.length))) (chk (decide (0+v7.toNat<vH.length)) (let r15:List (List UInt8):=vH.set (0+v7.toNat) (v12++v14)
 let v16:Int:=IntKind.wrap .i64 (nS+1)
 g0 (s_2,zRm,v16,r15,())))))))) (let v17:Int:=IntKind.wrap .i64 (nS+1)
 chk ((decide (0<=v17)&&decide (v17<=(s_2.length:Int))&&(decide (0<=nS)&&decide (nS<=v17)))) (let v18:List UInt8:=(s_2.take v17.toNat).drop nS.toNat
 chk (Nat.ble ((vH.length+([v18]:List (List UInt8)).length) * 16) room) (let v19:Int:=IntKind.wrap .i64 (nS+1)
 g0 (s_2,zRm,v19,vH++[v18],()))))))) (let v20:Int:=IntKind.wrap .i64 (nS+1)
 chk ((decide (0<=v20)&&decide (v20<=(s_2.length:Int))&&(decide (0<=nS)&&decide (nS<=v20)))) (let v21:List UInt8:=(s_2.take v20.toNat).drop nS.toNat
 chk (Nat.ble ((vH.length+([v21]:List (List UInt8)).length) * 16) room) (let v22:Int:=IntKind.wrap .i64 (nS+1)
 g0 (s_2,zRm,v22,vH++[v21],()))))) (some vH)
def Gi (n:Nat) (x:List UInt8):Option (List (List UInt8)) :=let s_0:=x
 fix (uL n) n (s_0,(s_0.length:Int),0,[],())
def mR (n:Nat) (g2:List UInt8×Int×Int×List (Int)×List (List UInt8)×Unit->Option (List UInt8)) (x35:List UInt8×Int×Int×List (Int)×List (List UInt8)×Unit):Option (List UInt8) :=let Jj:=x35.1
 let Kv:=x35.2.1
 let yP:=x35.2.2.1
 let b39:=x35.2.2.2.1
 let Bo:=x35.2.2.2.2.1
 br (decide (yP<Kv)) (chk ((inB yP (Bo.length)&&decide (0+(Bo.length)<=Bo.length))) (chk (decide (0+yP.toNat<Bo.length)) (let v41:List UInt8:=Bo.getD (0+yP.toNat) (Ty.dflt .str)
 chk (inB 0 v41.length) (let v42:Int:=((bE 0 v41 0).toNat:Int)
 ob (rZ n (b39,v42)) fun y43 =>br y43 (br (v41==[10]) (chk (decide (Jj.length+([92,110]:List UInt8).length<=aH)) (let v44:Int:=IntKind.wrap .i64 (yP+1)
 g2 (Jj++[92,110],Kv,v44,b39,Bo,()))) (chk (inB 0 v41.length) (let v45:Int:=((bE 0 v41 0).toNat:Int)
 ob (rZ n (b39,v45)) fun y46 =>br y46 (chk (decide (Jj.length+v41.length<=aH)) (let v47:Int:=IntKind.wrap .i64 (yP+1)
 g2 (Jj++v41,Kv,v47,b39,Bo,()))) (let v48:Int:=IntKind.wrap .i64 (yP+1)
 g2 (Jj,Kv,v48,b39,Bo,()))))) (chk (inB 0 v41.length) (let v49:Int:=((bE 0 v41 0).toNat:Int)
 ob (rZ n (b39,v49)) fun y50 =>br y50 (chk (decide (Jj.length+v41.length<=aH)) (let v51:Int:=IntKind.wrap .i64 (yP+1)
 g2 (Jj++v41,Kv,v51,b39,Bo,()))) (let v52:Int:=IntKind.wrap .i64 (yP+1)
 g2 (Jj,Kv,v52,b39,Bo,())))))))) (chk (decide (Jj.length+([93]:List UInt8).length<=aH)) (some (Jj++[93])))
def pX (n:Nat) (g1:List UInt8×List (List UInt8)×Int×Int×List (Int)×Unit->Option (List UInt8)) (x22:List UInt8×List (List UInt8)×Int×Int×List (Int)×Unit):Option (List UInt8) :=let zKg:=x22.1
 let zBa:=x22.2.1
 let zKh:=x22.2.2.1
 let Ri:=x22.2.2.2.1
 let b27:=x22.2.2.2.2.1
 br (decide (Ri<zKh)) (chk (inB Ri zBa.length) (let v28:List UInt8:=bE (Ty.dflt .str) zBa Ri
 br (decide ((v28.length:Int) > 2)) (chk ((decide (0<=(1:Int))&&decide ((1:Int)<=(v28.length:Int)))) (chk (decide ((v28.take (1:Int).toNat).length+([45]:List UInt8).length<=aH)) (let v29:List UInt8:=(v28.take (1:Int).toNat)++[45]
 let v30:Int:=IntKind.wrap .i64 ((v28.length:Int) - 1)
 chk ((decide (0<=v30)&&decide (v30<=(v28.length:Int)))) (chk (decide (v29.length+(v28.drop v30.toNat).length<=aH)) (let v31:List UInt8:=v29++(v28.drop v30.toNat)
 chk (decide (zKg.length+v31.length<=aH)) (let v32:Int:=IntKind.wrap .i64 (Ri+1)
 g1 (zKg++v31,zBa,zKh,v32,b27,()))))))) (chk (decide (zKg.length+v28.length<=aH)) (let v33:Int:=IntKind.wrap .i64 (Ri+1)
 g1 (zKg++v28,zBa,zKh,v33,b27,()))))) (let v34:Int:=(([[10],[91],[92],[94],[45]].length:Nat):Int)
 fix (mR n) n (zKg,v34,0,b27,[[10],[91],[92],[94],[45]],()))
def pY (n:Nat) (g0:List UInt8×List (Int)×Int×Int×List (Int)×List (Int)×Unit->Option (List UInt8)) (x10:List UInt8×List (Int)×Int×Int×List (Int)×List (Int)×Unit):Option (List UInt8) :=let zYf:=x10.1
 let zBb:=x10.2.1
 let zKi:=x10.2.2.1
 let Rj:=x10.2.2.2.1
 let b15:=x10.2.2.2.2.1
 let zHp:=x10.2.2.2.2.2.1
 br (decide (Rj<zKi)) (chk (inB Rj zBb.length) (let v17:Int:=bE (Ty.dflt (.int .u8)) zBb Rj
 ob (strings_IndexByte n ([93,91,92,94,45,10],v17)) fun y18 =>br (decide (y18 < 0)) (chk (Nat.ble ((zHp.length+([v17]:List (Int)).length) * 1) room) (let v19:Int:=IntKind.wrap .i64 (Rj+1)
 g0 (zYf,zBb,zKi,v19,b15,zHp++[v17],()))) (let v20:Int:=IntKind.wrap .i64 (Rj+1)
 g0 (zYf,zBb,zKi,v20,b15,zHp,())))) (ob (Gi n (dZ zHp)) fun y21 =>fix (pX n) n (zYf,y21,(y21.length:Int),0,b15,()))
def mU (n:Nat) (x5:List UInt8×List UInt8×List (Int)×Unit):Option (List UInt8) :=let l_6:=x5.1
 let b_7:=x5.2.1
 let b8:=x5.2.2.1
 chk (Nat.ble l_6.length room) (let v9:Int:=((bF l_6).length:Int)
 fix (pY n) n (b_7,bF l_6,v9,0,b8,[],()))
def Ag (n:Nat) (x:List (Int)):Option (List UInt8) :=let s_0:=x
 ob (oD n s_0) fun y1 =>br ((y1.length:Int)==0) (some []) (br ((y1.length:Int)==1) (chk (inB 0 y1.length) (let v2:Int:=((bE 0 y1 0).toNat:Int)
 ob (Gh n v2) fun y3 =>some y3)) (br ((y1.length:Int)==256) (some [46]) (br (y1==[45,94]) (some [91,45,94,93]) (ob (rZ n (s_0,93)) fun y4 =>br y4 (chk (decide ([91].length+([93]:List UInt8).length<=aH)) (jn (mU n) (y1,[91]++[93],s_0,()))) (jn (mU n) (y1,[91],s_0,()))))))
def zGh (n:Nat) (g0:List (NdT)×Int×Int×List (List UInt8)×Unit->Option (List UInt8)) (g1:Int×List UInt8×List (NdT)×Int×Int×List (Int)×Int×Int×List (List UInt8)×Unit->Option (List UInt8)) (x16:Int×List UInt8×List (NdT)×Int×Int×List (Int)×Int×Int×List (List UInt8)×Unit):Option (List UInt8) :=let zDr:=x16.1
 let zKj:=x16.2.1
 let zUh:=x16.2.2.1
 let zUi:=x16.2.2.2.1
 let zUj:=x16.2.2.2.2.1
 let zKk:=x16.2.2.2.2.2.1
 let zUk:=x16.2.2.2.2.2.2.1
 let zBc:=x16.2.2.2.2.2.2.2.1
 let yQ:=x16.2.2.2.2.2.2.2.2.1
 br (decide (zBc<zUk)) (chk (inB zBc zKk.length) (let v26:Int:=bE (Ty.dflt (.int .u8)) zKk zBc
 chk ((!decide (16 = 0))) (let v27:Int:=IntKind.wrap .u64 (Int.tdiv (IntKind.wrap .u64 v26) 16)
 ob (oC n (v27,16)) fun y28 =>chk ((!decide (16 = 0))) (let v29:Int:=Int.tmod (IntKind.wrap .u64 v26) 16
 ob (oC n (v29,16)) fun y30 =>chk (decide (y28.length+y30.length<=aH)) (chk (decide (zKj.length+(y28++y30).length<=aH)) (let v31:Int:=IntKind.wrap .i64 (zBc+1)
 g1 (zDr,zKj++(y28++y30),zUh,zUi,zUj,zKk,zUk,v31,yQ,()))))))) (chk (decide (zKj.length+([93]:List UInt8).length<=aH)) (chk ((decide (0<=zDr)&&decide (zDr<=(yQ.length:Int)))) (chk ((Nat.ble (zDr.toNat) yQ.length&&Nat.ble (((zDr.toNat)+([zKj++[93]]:List (List UInt8)).length) * 16) room)) (let r32:List (List UInt8):=yQ.take (zDr.toNat)++[zKj++[93]]
 let v33:Int:=IntKind.wrap .i64 (zUj+1)
 g0 (zUh,zUi,v33,r32,())))))
def zGi (n:Nat) (g0:List (NdT)×Int×Int×List (List UInt8)×Unit->Option (List UInt8)) (x2:List (NdT)×Int×Int×List (List UInt8)×Unit):Option (List UInt8) :=let wM:=x2.1
 let yR:=x2.2.1
 let uM:=x2.2.2.1
 let aY:=x2.2.2.2.1
 br (decide (uM<yR)) (chk (inB uM wM.length) (let v7:Int×List (Int)×Int×Int×Int×Int×Int×Unit:=bE (Ty.dflt aD) wM uM
 let v8:Int:=((aY.length:Nat):Int)
 ob (rP n v7) fun y9 =>let v10:Int:=IntKind.wrap .i64 (v8-y9)
 chk ((decide (0<=v10)&&decide (v10<=(aY.length:Int)))) (chk ((Nat.ble ((0+(v10.toNat))+((aY.length)-(v10.toNat))) aY.length&&true)) (ob (strings_Join n ((aY.drop (0+(v10.toNat))).take ((aY.length)-(v10.toNat)),[])) fun y11 =>br (v7.1==0) (chk ((decide (0<=v10)&&decide (v10<=(aY.length:Int)))) (chk ((Nat.ble (v10.toNat) aY.length&&Nat.ble (((v10.toNat)+([[101]]:List (List UInt8)).length) * 16) room)) (let r12:List (List UInt8):=aY.take (v10.toNat)++[[101]]
 let v13:Int:=IntKind.wrap .i64 (uM+1)
 g0 (wM,yR,v13,r12,())))) (br (v7.1==1) (ob (oD n v7.2.1) fun y14 =>chk (Nat.ble y14.length room) (let v15:Int:=((bF y14).length:Int)
 fix (zGh n g0) n (v10,[91],wM,yR,uM,bF y14,v15,0,aY,()))) (br (v7.1==2) (chk ((decide (0<=v10)&&decide (v10<=(aY.length:Int)))) (chk ((Nat.ble (v10.toNat) aY.length&&Nat.ble (((v10.toNat)+([[94]]:List (List UInt8)).length) * 16) room)) (let r34:List (List UInt8):=aY.take (v10.toNat)++[[94]]
 let v35:Int:=IntKind.wrap .i64 (uM+1)
 g0 (wM,yR,v35,r34,())))) (br (v7.1==3) (chk ((decide (0<=v10)&&decide (v10<=(aY.length:Int)))) (chk ((Nat.ble (v10.toNat) aY.length&&Nat.ble (((v10.toNat)+([[36]]:List (List UInt8)).length) * 16) room)) (let r36:List (List UInt8):=aY.take (v10.toNat)++[[36]]
 let v37:Int:=IntKind.wrap .i64 (uM+1)
 g0 (wM,yR,v37,r36,())))) (br (v7.1==4) (chk (decide ([38].length+y11.length<=aH)) (chk ((decide (0<=v10)&&decide (v10<=(aY.length:Int)))) (chk ((Nat.ble (v10.toNat) aY.length&&Nat.ble (((v10.toNat)+([[38]++y11]:List (List UInt8)).length) * 16) room)) (let r38:List (List UInt8):=aY.take (v10.toNat)++[[38]++y11]
 let v39:Int:=IntKind.wrap .i64 (uM+1)
 g0 (wM,yR,v39,r38,()))))) (br (v7.1==5) (chk (decide ([124].length+y11.length<=aH)) (chk ((decide (0<=v10)&&decide (v10<=(aY.length:Int)))) (chk ((Nat.ble (v10.toNat) aY.length&&Nat.ble (((v10.toNat)+([[124]++y11]:List (List UInt8)).length) * 16) room)) (let r40:List (List UInt8):=aY.take (v10.toNat)++[[124]++y11]
 let v41:Int:=IntKind.wrap .i64 (uM+1)
 g0 (wM,yR,v41,r40,()))))) (br (v7.1==6) (ob (strconv_Itoa n v7.2.2.2.2.1) fun y42 =>chk (decide ([42].length+y42.length<=aH)) (chk (decide (([42]++y42).length+([44]:List UInt8).length<=aH)) (ob (strconv_Itoa n v7.2.2.2.2.2.1) fun y43 =>chk (decide ((([42]++y42)++[44]).length+y43.length<=aH)) (let v44:List UInt8:=(([42]++y42)++[44])++y43
 chk (decide (v44.length+([59]:List UInt8).length<=aH)) (chk (decide ((v44++[59]).length+y11.length<=aH)) (chk ((decide (0<=v10)&&decide (v10<=(aY.length:Int)))) (chk ((Nat.ble (v10.toNat) aY.length&&Nat.ble (((v10.toNat)+([(v44++[59])++y11]:List (List UInt8)).length) * 16) room)) (let r45:List (List UInt8):=aY.take (v10.toNat)++[(v44++[59])++y11]
 let v46:Int:=IntKind.wrap .i64 (uM+1)
 g0 (wM,yR,v46,r45,()))))))))) (br (v7.1==7) (chk (decide ([40].length+y11.length<=aH)) (chk (decide (([40]++y11).length+([41]:List UInt8).length<=aH)) (chk ((decide (0<=v10)&&decide (v10<=(aY.length:Int)))) (chk ((Nat.ble (v10.toNat) aY.length&&Nat.ble (((v10.toNat)+([([40]++y11)++[41]]:List (List UInt8)).length) * 16) room)) (let r47:List (List UInt8):=aY.take (v10.toNat)++[([40]++y11)++[41]]
 let v48:Int:=IntKind.wrap .i64 (uM+1)
 g0 (wM,yR,v48,r47,())))))) (br (v7.1==8) (ob (strconv_Itoa n v7.2.2.2.2.2.2.1) fun y49 =>chk (decide ([92].length+y49.length<=aH)) (chk ((decide (0<=v10)&&decide (v10<=(aY.length:Int)))) (chk ((Nat.ble (v10.toNat) aY.length&&Nat.ble (((v10.toNat)+([[92]++y49]:List (List UInt8)).length) * 16) room)) (let r50:List (List UInt8):=aY.take (v10.toNat)++[[92]++y49]
 let v51:Int:=IntKind.wrap .i64 (uM+1)
 g0 (wM,yR,v51,r50,()))))) (chk ((decide (0<=v10)&&decide (v10<=(aY.length:Int)))) (chk ((Nat.ble (v10.toNat) aY.length&&Nat.ble (((v10.toNat)+([[]]:List (List UInt8)).length) * 16) room)) (let r52:List (List UInt8):=aY.take (v10.toNat)++[[]]
 let v53:Int:=IntKind.wrap .i64 (uM+1)
 g0 (wM,yR,v53,r52,())))))))))))))))) (chk ((inB 0 (aY.length)&&decide (0+(aY.length)<=aY.length))) (chk (decide (0+(0:Int).toNat<aY.length)) (let v54:List UInt8:=aY.getD (0+(0:Int).toNat) (Ty.dflt .str)
 some v54)))
def Uu (n:Nat) (x:List (NdT)):Option (List UInt8) :=let l_0:=x
 ob (Rh n l_0) fun y1 =>br (!y1) (some []) (fix (zGi n) n (l_0,(l_0.length:Int),0,[],()))
def Rk (n:Nat) (x:List (NdT)):Option (Int) :=let l_0:=x
 ob (Ku n l_0) fun y1 =>some y1.1
def pI (n:Nat) (g0:Int×List (Bool)×List (Int)×Unit->Option (List UInt8)) (x1:Int×List (Bool)×List (Int)×Unit):Option (List UInt8) :=let i_2:=x1.1
 let b3:=x1.2.1
 let zRn:=x1.2.2.1
 br (decide (i_2 < 256)) (chk (inB i_2 256) (chk (decide (i_2.toNat < 256)) (br (b3.getD (i_2.toNat) (Ty.dflt .bool)) (chk (Nat.ble ((zRn.length+([IntKind.wrap .u8 i_2]:List (Int)).length) * 1) room) (let r5:List (Int):=zRn++[IntKind.wrap .u8 i_2]
 let v6:Int:=IntKind.wrap .i64 (i_2+1)
 g0 (v6,b3,r5,()))) (let v7:Int:=IntKind.wrap .i64 (i_2+1)
 g0 (v7,b3,zRn,()))))) (some (dZ zRn))
def kS (n:Nat) (x:List (Bool)):Option (List UInt8) :=let a_0:=x
 fix (pI n) n (0,a_0,[],())
def yS (n:Nat) (x:List (Bool)):Option (Int) :=let a_0:=x
 ob (kS n a_0) fun y1 =>some (y1.length:Int)
def lV (n:Nat) (g0:Int×Int×List (Bool)×List (Bool)×Unit->Option (List (Bool))) (x1:Int×Int×List (Bool)×List (Bool)×Unit):Option (List (Bool)) :=let b_2:=x1.1
 let i_3:=x1.2.1
 let b4:=x1.2.2.1
 let b5:=x1.2.2.2.1
 br (decide (i_3<=(IntKind.wrap .i64 b_2))) (chk (inB i_3 256) (chk (decide (i_3.toNat < 256)) (let v6:Int:=IntKind.wrap .i64 (i_3+1)
 g0 (b_2,v6,b4,b5.set (i_3.toNat) true,())))) (some b5)
def fO (n:Nat) (x:Int×Int):Option (List (Bool)) :=let a_0:=x.1
 let b_1:=x.2
 fix (lV n) n (b_1,IntKind.wrap .i64 a_0,(List.replicate 256 false),(List.replicate 256 false),())
def uN (n:Nat) (g0:Int×List (Bool)×List (Bool)×List (Bool)×Unit->Option (List (Bool))) (x1:Int×List (Bool)×List (Bool)×List (Bool)×Unit):Option (List (Bool)) :=let i_2:=x1.1
 let b3:=x1.2.1
 let b4:=x1.2.2.1
 let b5:=x1.2.2.2.1
 br (decide (i_2 < 256)) (chk (inB i_2 256) (chk (decide (i_2.toNat < 256)) (br (b3.getD (i_2.toNat) (Ty.dflt .bool)) (chk (inB i_2 256) (chk (decide (i_2.toNat < 256)) (let v6:Int:=IntKind.wrap .i64 (i_2+1)
 g0 (v6,b3.set (i_2.toNat) true,b4,b5,())))) (chk (inB i_2 256) (chk (decide (i_2.toNat < 256)) (chk (inB i_2 256) (chk (decide (i_2.toNat < 256)) (let v7:Int:=IntKind.wrap .i64 (i_2+1)
 g0 (v7,b3.set (i_2.toNat) (b4.getD (i_2.toNat) (Ty.dflt .bool)),b4,b5,()))))))))) (some b3)
def qU (n:Nat) (x:List (Bool)×List (Bool)):Option (List (Bool)) :=let a_0:=x.1
 let b_1:=x.2
 fix (uN n) n (0,a_0,b_1,(List.replicate 256 false),())
def uO (n:Nat) (g0:List UInt8×Int×List (Bool)×List (Bool)×Unit->Option (List (Bool))) (x1:List UInt8×Int×List (Bool)×List (Bool)×Unit):Option (List (Bool)) :=let s_2:=x1.1
 let i_3:=x1.2.1
 let b4:=x1.2.2.1
 let b5:=x1.2.2.2.1
 br (decide (i_3<(s_2.length:Int))) (chk (inB i_3 s_2.length) (let v6:Int:=((bE 0 s_2 i_3).toNat:Int)
 chk (inB v6 256) (chk (decide (v6.toNat < 256)) (let v7:Int:=IntKind.wrap .i64 (i_3+1)
 g0 (s_2,v7,b4,b5.set (v6.toNat) true,()))))) (some b5)
def Gj (n:Nat) (x:List UInt8):Option (List (Bool)) :=let s_0:=x
 fix (uO n) n (s_0,0,(List.replicate 256 false),(List.replicate 256 false),())
def lW (n:Nat) (g0:Int×List (Bool)×List (Bool)×List (Bool)×Unit->Option (List (Bool)×Bool)) (x21:Int×List (Bool)×List (Bool)×List (Bool)×Unit):Option (List (Bool)×Bool) :=let wW:=x21.1
 let b23:=x21.2.1
 let b24:=x21.2.2.1
 let b25:=x21.2.2.2.1
 br (decide (wW < 256)) (chk (inB wW 256) (chk (decide (wW.toNat < 256)) (br (b25.getD (wW.toNat) (Ty.dflt .bool)) (chk (inB wW 256) (chk (decide (wW.toNat < 256)) (chk (inB wW 256) (chk (decide (wW.toNat < 256)) (let v26:Int:=IntKind.wrap .i64 (wW+1)
 g0 (v26,b23,b24,b25.set (wW.toNat) (!(b24.getD (wW.toNat) (Ty.dflt .bool))),())))))) (chk (inB wW 256) (chk (decide (wW.toNat < 256)) (let v27:Int:=IntKind.wrap .i64 (wW+1)
 g0 (v27,b23,b24,b25.set (wW.toNat) false,()))))))) (some (b25,true))
def Wi (n:Nat) (x:List UInt8):Option (List (Bool)×Bool) :=let gF:=x
 ob (fO n (65,90)) fun y1 =>ob (fO n (97,122)) fun y2 =>ob (fO n (48,57)) fun y3 =>ob (qU n (y1,y2)) fun y4 =>ob (qU n (y4,y3)) fun y5 =>br (gF==[117,112,112,101,114]) (some (y1,true)) (br (gF==[108,111,119,101,114]) (some (y2,true)) (br (gF==[97,108,112,104,97]) (ob (qU n (y1,y2)) fun y6 =>some (y6,true)) (br (gF==[100,105,103,105,116]) (some (y3,true)) (br (gF==[97,108,110,117,109]) (some (y5,true)) (br (gF==[120,100,105,103,105,116]) (ob (fO n (65,70)) fun y7 =>ob (fO n (97,102)) fun y8 =>ob (qU n (y7,y8)) fun y9 =>ob (qU n (y3,y9)) fun y10 =>some (y10,true)) (br (gF==[98,108,97,110,107]) (ob (Gj n [9,32]) fun y11 =>some (y11,true)) (br (gF==[115,112,97,99,101]) (ob (fO n (9,13)) fun y12 =>ob (Gj n [32]) fun y13 =>ob (qU n (y12,y13)) fun y14 =>some (y14,true)) (br (gF==[99,110,116,114,108]) (ob (fO n (0,31)) fun y15 =>ob (fO n (127,127)) fun y16 =>ob (qU n (y15,y16)) fun y17 =>some (y17,true)) (br (gF==[103,114,97,112,104]) (ob (fO n (33,126)) fun y18 =>some (y18,true)) (br (gF==[112,114,105,110,116]) (ob (fO n (32,126)) fun y19 =>some (y19,true)) (br (gF==[112,117,110,99,116]) (ob (fO n (33,126)) fun y20 =>fix (lW n) n (0,(List.replicate 256 false),y5,y20,())) (some ((List.replicate 256 false),false)))))))))))))
def qV (n:Nat) (g0:Int×List (Int)×List (Bool)×List (Bool)×Unit->Option (List (Bool))) (x1:Int×List (Int)×List (Bool)×List (Bool)×Unit):Option (List (Bool)) :=let i_2:=x1.1
 let b3:=x1.2.1
 let b4:=x1.2.2.1
 let b5:=x1.2.2.2.1
 br (decide (i_2 < 256)) (chk ((!decide (64 = 0))) (let v6:Int:=IntKind.wrap .i64 (Int.tdiv i_2 64)
 chk (inB v6 4) (chk (decide (v6.toNat < 4)) (let v7:Int:=b3.getD (v6.toNat) (Ty.dflt (.int .u64))
 chk ((!decide (2 = 0))) (chk (inB i_2 256) (chk (decide (i_2.toNat < 256)) (chk ((!decide (64 = 0))) (let v8:Int:=IntKind.wrap .i64 (Int.tdiv i_2 64)
 chk ((!decide (64 = 0))) (let v9:Int:=IntKind.wrap .i64 (Int.tdiv i_2 64)
 chk (inB v9 4) (chk (decide (v9.toNat < 4)) (let v10:Int:=b3.getD (v9.toNat) (Ty.dflt (.int .u64))
 chk ((!decide (2 = 0))) (let v11:Int:=IntKind.wrap .u64 (Int.tdiv v10 2)
 chk (inB v8 4) (chk (decide (v8.toNat < 4)) (let v12:Int:=IntKind.wrap .i64 (i_2+1)
 g0 (v12,b3.set (v8.toNat) v11,b4,b5.set (i_2.toNat) ((Int.tmod v7 2)==1),()))))))))))))))) (some b5)
def yT (n:Nat) (x:List (Int)):Option (List (Bool)) :=let w_0:=x
 fix (qV n) n (0,w_0,(List.replicate 256 false),(List.replicate 256 false),())
def uP (n:Nat) (g0:List UInt8×Int×Int×Unit->Option (Bool)) (x1:List UInt8×Int×Int×Unit):Option (Bool) :=let s_2:=x1.1
 let b_3:=x1.2.1
 let i_4:=x1.2.2.1
 br (decide (i_4<(s_2.length:Int))) (chk (inB i_4 s_2.length) (let v5:Int:=((bE 0 s_2 i_4).toNat:Int)
 br (v5==b_3) (some true) (let v6:Int:=IntKind.wrap .i64 (i_4+1)
 g0 (s_2,b_3,v6,())))) (some false)
def qW (n:Nat) (x:List UInt8×Int):Option (Bool) :=let s_0:=x.1
 let b_1:=x.2
 fix (uP n) n (s_0,b_1,0,())
def rQ (n:Nat) (x:Int×List UInt8):Option (List UInt8) :=let b_0:=x.1
 let Rl:=x.2
 br (b_0==10) (some [92,110]) (ob (qW n (Rl,b_0)) fun y1 =>br y1 (chk (decide ([92].length+(dZ [b_0]).length<=aH)) (some ([92]++(dZ [b_0])))) (some (dZ [b_0])))
def nH (n:Nat) (g0:List UInt8×Int×List (Bool)×Unit->Option (List UInt8)) (x31:List UInt8×Int×Int×Int×Int×Bool×List (Bool)×Unit):Option (List UInt8) :=let zBd:=x31.1
 let zRo:=x31.2.1
 let zYg:=x31.2.2.1
 let yIl:=x31.2.2.2.1
 let yIm:=x31.2.2.2.2.1
 let yIn:=x31.2.2.2.2.2.1
 let b38:=x31.2.2.2.2.2.2.1
 let v39:Int:=IntKind.wrap .i64 (zYg-zRo)
 br (decide (v39≥2)) (let v40:List UInt8:=dZ [IntKind.wrap .u8 zRo,45,IntKind.wrap .u8 zYg]
 chk (decide (zBd.length+v40.length<=aH)) (let v41:Int:=IntKind.wrap .i64 (zYg+1)
 g0 (zBd++v40,v41,b38,()))) (let v42:List UInt8:=dZ [IntKind.wrap .u8 zRo]
 chk (decide (zBd.length+v42.length<=aH)) (let v43:Int:=IntKind.wrap .i64 (zRo+1)
 g0 (zBd++v42,v43,b38,())))
def wX (n:Nat) (g0:List UInt8×Int×List (Bool)×Unit->Option (List UInt8)) (g1:List UInt8×Int×Int×Int×Int×Bool×List (Bool)×Unit->Option (List UInt8)) (x18:List UInt8×Int×Int×Int×Int×Bool×List (Bool)×Unit):Option (List UInt8) :=let zBe:=x18.1
 let zRp:=x18.2.1
 let Yg:=x18.2.2.1
 let zBf:=x18.2.2.2.1
 let zBg:=x18.2.2.2.2.1
 let zBh:=x18.2.2.2.2.2.1
 let b25:=x18.2.2.2.2.2.2.1
 let v26:Int:=IntKind.wrap .i64 (Yg+1)
 br (decide (v26 < 256)) (let v27:Int:=IntKind.wrap .i64 (Yg+1)
 chk (inB v27 256) (chk (decide (v27.toNat < 256)) (br (b25.getD (v27.toNat) (Ty.dflt .bool)) (let v28:Int:=IntKind.wrap .i64 (Yg+1)
 ob (qW n ([93,91,92,94,45,10],IntKind.wrap .u8 v28)) fun y29 =>br (!y29) (let v30:Int:=IntKind.wrap .i64 (Yg+1)
 g1 (zBe,zRp,v30,zBf,zBg,zBh,b25,())) (jn (nH n g0) (zBe,zRp,Yg,zBf,zBg,zBh,b25,()))) (jn (nH n g0) (zBe,zRp,Yg,zBf,zBg,zBh,b25,()))))) (jn (nH n g0) (zBe,zRp,Yg,zBf,zBg,zBh,b25,()))
def Gl (n:Nat) (g0:List UInt8×Int×List (Bool)×Unit->Option (List UInt8)) (x11:List UInt8×Int×Int×Int×Bool×List (Bool)×Unit):Option (List UInt8) :=let yDx:=x11.1
 let yDy:=x11.2.1
 let yDz:=x11.2.2.1
 let yEa:=x11.2.2.2.1
 let yEb:=x11.2.2.2.2.1
 let b17:=x11.2.2.2.2.2.1
 fix (wX n g0) n (yDx,yDy,yDy,yDz,yEa,yEb,b17,())
def qX (n:Nat) (x50:List UInt8×List (Bool)×Unit):Option (List UInt8) :=let qA:=x50.1
 let b52:=x50.2.1
 ob (kS n b52) fun y53 =>br (y53==[45,94]) (chk (decide (qA.length+([45,94,93]:List UInt8).length<=aH)) (some (qA++[45,94,93]))) (chk (inB 94 256) (chk (decide ((94:Int).toNat < 256)) (br (b52.getD ((94:Int).toNat) (Ty.dflt .bool)) (chk (decide (qA.length+([94]:List UInt8).length<=aH)) (chk (inB 45 256) (chk (decide ((45:Int).toNat < 256)) (br (b52.getD ((45:Int).toNat) (Ty.dflt .bool)) (chk (decide ((qA++[94]).length+([45]:List UInt8).length<=aH)) (chk (decide (((qA++[94])++[45]).length+([93]:List UInt8).length<=aH)) (let v54:List UInt8:=((qA++[94])++[45])++[93]
 some v54))) (chk (decide ((qA++[94]).length+([93]:List UInt8).length<=aH)) (some ((qA++[94])++[93]))))))) (chk (inB 45 256) (chk (decide ((45:Int).toNat < 256)) (br (b52.getD ((45:Int).toNat) (Ty.dflt .bool)) (chk (decide (qA.length+([45]:List UInt8).length<=aH)) (chk (decide ((qA++[45]).length+([93]:List UInt8).length<=aH)) (some ((qA++[45])++[93])))) (chk (decide (qA.length+([93]:List UInt8).length<=aH)) (some (qA++[93])))))))))
def qY (n:Nat) (x47:List UInt8×List (Bool)×Unit):Option (List UInt8) :=let zKl:=x47.1
 let b49:=x47.2.1
 chk (inB 92 256) (chk (decide ((92:Int).toNat < 256)) (br (b49.getD ((92:Int).toNat) (Ty.dflt .bool)) (chk (decide (zKl.length+([92]:List UInt8).length<=aH)) (jn (qX n) (zKl++[92],b49,()))) (jn (qX n) (zKl,b49,()))))
def qZ (n:Nat) (x44:List UInt8×List (Bool)×Unit):Option (List UInt8) :=let zKm:=x44.1
 let b46:=x44.2.1
 chk (inB 91 256) (chk (decide ((91:Int).toNat < 256)) (br (b46.getD ((91:Int).toNat) (Ty.dflt .bool)) (chk (decide (zKm.length+([91]:List UInt8).length<=aH)) (jn (qY n) (zKm++[91],b46,()))) (jn (qY n) (zKm,b46,()))))
def kJ (n:Nat) (g0:List UInt8×Int×List (Bool)×Unit->Option (List UInt8)) (x4:List UInt8×Int×List (Bool)×Unit):Option (List UInt8) :=let Uv:=x4.1
 let i_6:=x4.2.1
 let b7:=x4.2.2.1
 br (decide (i_6 < 256)) (chk (inB i_6 256) (chk (decide (i_6.toNat < 256)) (br (!(b7.getD (i_6.toNat) (Ty.dflt .bool))) (let v8:Int:=IntKind.wrap .i64 (i_6+1)
 g0 (Uv,v8,b7,())) (ob (qW n ([93,91,92,94,45,10],IntKind.wrap .u8 i_6)) fun y9 =>br y9 (let v10:Int:=IntKind.wrap .i64 (i_6+1)
 g0 (Uv,v10,b7,())) (jn (Gl n g0) (Uv,i_6,i_6,IntKind.wrap .u8 i_6,y9,b7,())))))) (chk (inB 10 256) (chk (decide ((10:Int).toNat < 256)) (br (b7.getD ((10:Int).toNat) (Ty.dflt .bool)) (chk (decide (Uv.length+([92,110]:List UInt8).length<=aH)) (jn (qZ n) (Uv++[92,110],b7,()))) (jn (qZ n) (Uv,b7,())))))
def wY (n:Nat) (x1:List UInt8×List (Bool)×Unit):Option (List UInt8) :=let yFy:=x1.1
 let b3:=x1.2.1
 fix (kJ n) n (yFy,0,b3,())
def yU (n:Nat) (x:List (Bool)):Option (List UInt8) :=let a_0:=x
 chk (inB 93 256) (chk (decide ((93:Int).toNat < 256)) (br (a_0.getD ((93:Int).toNat) (Ty.dflt .bool)) (chk (decide ([91].length+([93]:List UInt8).length<=aH)) (jn (wY n) ([91]++[93],a_0,()))) (jn (wY n) ([91],a_0,()))))
def Bp (n:Nat) (x:List (Bool)×List UInt8):Option (List UInt8) :=let a_0:=x.1
 let Rl:=x.2
 ob (yS n a_0) fun y1 =>br (y1==0) (some []) (br (y1==1) (ob (kS n a_0) fun y2 =>chk (inB 0 y2.length) (let v3:Int:=((bE 0 y2 0).toNat:Int)
 ob (rQ n (v3,Rl)) fun y4 =>some y4)) (br (y1==256) (some [46]) (ob (yU n a_0) fun y5 =>some y5)))
def jC (n:Nat) (x:Int):Option (Int) :=let x_0:=x
 chk (decide (0<=1)) (let v1:Int:=cK .u64 .and (gT .u64 x_0 1) 6148914691236517205
 let v2:Int:=cK .u64 .and x_0 6148914691236517205
 let v3:Int:=IntKind.wrap .u64 (v1+v2)
 chk (decide (0<=2)) (let v4:Int:=cK .u64 .and (gT .u64 v3 2) 3689348814741910323
 let v5:Int:=cK .u64 .and v3 3689348814741910323
 let v6:Int:=IntKind.wrap .u64 (v4+v5)
 chk (decide (0<=4)) (let v7:Int:=IntKind.wrap .u64 ((gT .u64 v6 4)+v6)
 let v8:Int:=cK .u64 .and v7 1085102592571150095
 chk (decide (0<=8)) (let v9:Int:=IntKind.wrap .u64 (v8+(gT .u64 v8 8))
 chk (decide (0<=16)) (let v10:Int:=IntKind.wrap .u64 (v9+(gT .u64 v9 16))
 chk (decide (0<=32)) (let v11:Int:=IntKind.wrap .u64 (v10+(gT .u64 v10 32))
 let v12:Int:=cK .i64 .and (IntKind.wrap .i64 v11) 127
 some v12))))))
def mV (n:Nat) (g0:Int×List (Int)×Int×Unit->Option (Int)) (x1:Int×List (Int)×Int×Unit):Option (Int) :=let n_2:=x1.1
 let zKd:=x1.2.1
 let Gg:=x1.2.2.1
 br (decide (Gg < 4)) (chk (inB Gg 4) (let v5:Int:=bE (Ty.dflt (.int .u64)) zKd Gg
 ob (jC n v5) fun y6 =>let v7:Int:=IntKind.wrap .i64 (n_2+y6)
 let v8:Int:=IntKind.wrap .i64 (Gg+1)
 g0 (v7,zKd,v8,()))) (some n_2)
def Gm (n:Nat) (x:List (Int)):Option (Int) :=let s_0:=x
 fix (mV n) n (0,s_0,0,())
end Go.Dec
