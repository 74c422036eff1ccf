/- Part of a proof over this seat: a library of my own, and what it says of this seat. No statement is proved here. -/
import Derived.Test.YthhbdkdofhhoeaaGreatDoorPartAL
import Derived.Test.YthhbdkdofhhoeaaGreatDoorPartAQ
namespace Go.Dec
set_option linter.unusedVariables false
abbrev aC:Ty:=.pair (.int .i64) (.pair (.arr 4 (.int .u64)) (.pair (.int .i64) (.pair (.int .i64) (.pair (.int .i64) (.pair (.int .i64) (.pair (.int .i64) .unit))))))
abbrev zWp:Ty:=.pair .str (.pair (.int .i64) .unit)
abbrev Yq:Ty:=.pair (.int .i64) (.pair (.int .i64) .unit)
abbrev vW:Ty:=.pair .str (.pair (.int .i64) (.pair (.slice aC) (.pair (.int .i64) (.pair (.arr 10 .bool) .unit))))
abbrev vX:Ty:=.pair (.slice aC) (.pair (.int .i64) (.pair (.arr 10 .bool) Yq))
abbrev Pf:Ty:=.pair (.int .i64) (.pair (.int .i64) (.pair (.slice (.int .i64)) (.pair (.slice (.int .i64)) .unit)))
abbrev yY:Ty:=.pair .str (.pair (.int .i64) (.pair (.slice aC) (.pair (.int .i64) (.pair (.slice Pf) Yq))))
abbrev Pg:Ty:=.pair (.slice aC) (.pair (.int .i64) Yq)
abbrev Yr:Ty:=.pair .bool (.pair (.int .i64) (.pair (.arr 10 .bool) (.pair .bool .unit)))
abbrev NdT:Type:=Int × List (Int) × Int × Int × Int × Int × Int × Unit
def gW (n:Nat) (x:List UInt8×List UInt8):Option (Bool) :=let s_0:=x.1
 let Vm:=x.2
 br (decide ((s_0.length:Int)≥(Vm.length:Int))) (chk ((decide (0<=(Vm.length:Int))&&decide ((Vm.length:Int)<=(s_0.length:Int)))) (let v1:List UInt8:=s_0.take (Vm.length:Int).toNat
 some (v1==Vm))) (some false)
def strings_HasPrefix (n:Nat) (x:List UInt8×List UInt8):Option (Bool) :=let s_0:=x.1
 let Vm:=x.2
 ob (gW n (s_0,Vm)) fun y1 =>some y1
def zEg (n:Nat) (g0:Int×List (Int)×List (Int)×Unit->Option (List (Int))) (x1:Int×List (Int)×List (Int)×Unit):Option (List (Int)) :=let Ph:=x1.1
 let b3:=x1.2.1
 let b4:=x1.2.2.1
 br (decide (Ph < 4)) (chk (inB Ph 4) (chk (decide (Ph.toNat < 4)) (let v5:Int:=b3.getD (Ph.toNat) (Ty.dflt (.int .u64))
 let v6:Int:=dW .u64 .xor 18446744073709551615 v5
 chk (inB Ph 4) (chk (decide (Ph.toNat < 4)) (let v7:Int:=IntKind.wrap .i64 (Ph+1)
 g0 (v7,b3.set (Ph.toNat) v6,b4,())))))) (some b3)
def Dx (n:Nat) (x:List (Int)):Option (List (Int)) :=let s_0:=x
 fix (zEg n) n (0,s_0,[0,0,0,0],())
def eH (n:Nat) (x:List UInt8×List UInt8×Int×Unit):Option (Bool×List UInt8×Int×Unit) :=let t_1:=x.1
 let s2:=x.2.1
 let at3:=x.2.2.1
 chk ((decide (0<=at3)&&decide (at3<=(s2.length:Int)))) (ob (strings_HasPrefix n (s2.drop at3.toNat,t_1)) fun y4 =>some (y4,s2,at3,()))
def dR (n:Nat) (x:List UInt8×List UInt8×Int×Unit):Option (Bool×List UInt8×Int×Unit) :=let t_1:=x.1
 let s2:=x.2.1
 let at3:=x.2.2.1
 ob (eH n (t_1,s2,at3,())) fun y4 =>br (!y4.1) (some (false,y4.2.1,y4.2.2.1,())) (let v5:Int:=IntKind.wrap .i64 (y4.2.2.1+(t_1.length:Int))
 some (true,y4.2.1,v5,()))
def bE (_n:Nat) (x:List UInt8×Int×Unit):Option (Sum (List UInt8×Int×Unit) (Int×Int×List UInt8×Int×Unit)):=some (.inr (42,0,x))
def oP (n:Nat) (g0:Int×Int×List (Int)×Unit->Option (List (Int))) (x1:Int×Int×List (Int)×Unit):Option (List (Int)) :=let b_2:=x1.1
 let i_3:=x1.2.1
 let b4:=x1.2.2.1
 br (decide (i_3<=(IntKind.wrap .i64 b_2))) (chk (decide (0<=6)) (chk (inB (nZ .i64 i_3 6) 4) (chk (decide ((nZ .i64 i_3 6).toNat < 4)) (let v5:Int:=b4.getD ((nZ .i64 i_3 6).toNat) (Ty.dflt (.int .u64))
 chk (decide (0<=dW .i64 .and i_3 63)) (let v6:Int:=Nj .u64 1 (dW .i64 .and i_3 63)
 chk (inB (nZ .i64 i_3 6) 4) (chk (decide ((nZ .i64 i_3 6).toNat < 4)) (let v7:Int:=IntKind.wrap .i64 (i_3+1)
 g0 (b_2,v7,b4.set ((nZ .i64 i_3 6).toNat) (dW .u64 .or v5 v6),())))))))) (some b4)
def cZ (n:Nat) (x:Int×Int):Option (List (Int)) :=let a_0:=x.1
 let b_1:=x.2
 fix (oP n) n (b_1,IntKind.wrap .i64 a_0,[0,0,0,0],())
def Pj (n:Nat) (g0:List (List (Int))×Int×Int×List (Int)×Unit->Option (List (Int))) (g1:List (List (Int))×Int×Int×Int×List (Int)×List (Int)×Unit->Option (List (Int))) (x7:List (List (Int))×Int×Int×Int×List (Int)×List (Int)×Unit):Option (List (Int)) :=let yAj:=x7.1
 let yAk:=x7.2.1
 let zWq:=x7.2.2.1
 let tQ:=x7.2.2.2.1
 let b12:=x7.2.2.2.2.1
 let b13:=x7.2.2.2.2.2.1
 br (decide (tQ < 4)) (chk (inB tQ 4) (chk (decide (tQ.toNat < 4)) (let v14:Int:=b12.getD (tQ.toNat) (Ty.dflt (.int .u64))
 chk (inB tQ 4) (chk (decide (tQ.toNat < 4)) (let v15:Int:=b13.getD (tQ.toNat) (Ty.dflt (.int .u64))
 chk (inB tQ 4) (chk (decide (tQ.toNat < 4)) (let v16:Int:=IntKind.wrap .i64 (tQ+1)
 g1 (yAj,yAk,zWq,v16,b12.set (tQ.toNat) (dW .u64 .or v14 v15),b13,())))))))) (let v17:Int:=IntKind.wrap .i64 (zWq+1)
 g0 (yAj,yAk,v17,b12,()))
def yD (n:Nat) (g0:List (List (Int))×Int×Int×List (Int)×Unit->Option (List (Int))) (x1:List (List (Int))×Int×Int×List (Int)×Unit):Option (List (Int)) :=let zUq:=x1.1
 let yAl:=x1.2.1
 let zOo:=x1.2.2.1
 let b5:=x1.2.2.2.1
 br (decide (zOo<yAl)) (chk (inB zOo zUq.length) (let v6:List (Int):=bF (Ty.dflt (.arr 4 (.int .u64))) zUq zOo
 fix (Pj n g0) n (zUq,yAl,zOo,0,b5,v6,()))) (some b5)
def nJ (n:Nat) (x:List (List (Int))):Option (List (Int)) :=let l_0:=x
 fix (yD n) n (l_0,(l_0.length:Int),0,[0,0,0,0],())
def yE (n:Nat) (g0:List UInt8×Int×Int×List (Int)×Unit->Option (List (Int))) (x1:List UInt8×Int×Int×List (Int)×Unit):Option (List (Int)) :=let s_2:=x1.1
 let yAm:=x1.2.1
 let zAy:=x1.2.2.1
 let b5:=x1.2.2.2.1
 br (decide (zAy<yAm)) (chk (inB zAy s_2.length) (let v6:Int:=((bF 0 s_2 zAy).toNat:Int)
 chk (decide (0<=6)) (chk (inB (nZ .u8 v6 6) 4) (chk (decide ((nZ .u8 v6 6).toNat < 4)) (let v7:Int:=b5.getD ((nZ .u8 v6 6).toNat) (Ty.dflt (.int .u64))
 chk (inB zAy s_2.length) (let v8:Int:=((bF 0 s_2 zAy).toNat:Int)
 chk (decide (0<=dW .u8 .and v8 63)) (let v9:Int:=Nj .u64 1 (dW .u8 .and v8 63)
 chk (inB (nZ .u8 v6 6) 4) (chk (decide ((nZ .u8 v6 6).toNat < 4)) (let v10:Int:=IntKind.wrap .i64 (zAy+1)
 g0 (s_2,yAm,v10,b5.set ((nZ .u8 v6 6).toNat) (dW .u64 .or v7 v9),())))))))))) (some b5)
def rQ (n:Nat) (x:List UInt8):Option (List (Int)) :=let s_0:=x
 fix (yE n) n (s_0,(s_0.length:Int),0,[0,0,0,0],())
def Bj (n:Nat) (x:List UInt8):Option (List (Int)×Bool) :=let gK:=x
 ob (cZ n (65,90)) fun y1 =>ob (cZ n (97,122)) fun y2 =>ob (cZ n (48,57)) fun y3 =>br (gK==[117,112,112,101,114]) (some (y1,true)) (br (gK==[108,111,119,101,114]) (some (y2,true)) (br (gK==[97,108,112,104,97]) (ob (nJ n [y1,y2]) fun y4 =>some (y4,true)) (br (gK==[100,105,103,105,116]) (some (y3,true)) (br (gK==[97,108,110,117,109]) (ob (nJ n [y1,y2,y3]) fun y5 =>some (y5,true)) (br (gK==[120,100,105,103,105,116]) (ob (cZ n (65,70)) fun y6 =>ob (cZ n (97,102)) fun y7 =>ob (nJ n [y3,y6,y7]) fun y8 =>some (y8,true)) (br (gK==[98,108,97,110,107]) (ob (rQ n [32,9]) fun y9 =>some (y9,true)) (br (gK==[115,112,97,99,101]) (ob (rQ n [32,9,10,11,12,13]) fun y10 =>some (y10,true)) (br (gK==[99,110,116,114,108]) (ob (cZ n (0,31)) fun y11 =>ob (rQ n [127]) fun y12 =>ob (nJ n [y11,y12]) fun y13 =>some (y13,true)) (br (gK==[103,114,97,112,104]) (ob (cZ n (33,126)) fun y14 =>some (y14,true)) (br (gK==[112,114,105,110,116]) (ob (cZ n (32,126)) fun y15 =>some (y15,true)) (br (gK==[112,117,110,99,116]) (ob (cZ n (33,47)) fun y16 =>ob (cZ n (58,64)) fun y17 =>ob (cZ n (91,96)) fun y18 =>ob (cZ n (123,126)) fun y19 =>ob (nJ n [y16,y17,y18,y19]) fun y20 =>some (y20,true)) (some ([0,0,0,0],false)))))))))))))
def pO (n:Nat) (x21:List UInt8×List UInt8×Int×Unit):Option (Sum (Int×Bool×List UInt8×Int×Unit) (Int×Int×List UInt8×Int×Unit)) :=let zXx:=x21.1
 let s23:=x21.2.1
 let zUr:=x21.2.2.1
 chk (inB zUr s23.length) (let v25:Int:=((bF 0 s23 zUr).toNat:Int)
 let v26:Int:=IntKind.wrap .i64 (zUr+3)
 some (.inl (v25,(zXx==[46]),s23,v26,())))
def iV (n:Nat) (x41:List UInt8×Int×Unit):Option (Sum (Int×Bool×List UInt8×Int×Unit) (Int×Int×List UInt8×Int×Unit)) :=let s42:=x41.1
 let yEb:=x41.2.1
 let v44:Int:=IntKind.wrap .i64 (yEb+1)
 let v45:Int:=IntKind.wrap .i64 (v44 - 1)
 chk (inB v45 s42.length) (let v46:Int:=((bF 0 s42 v45).toNat:Int)
 some (.inl (v46,true,s42,v44,())))
def gQ (n:Nat) (x30:Bool×Bool×List UInt8×Int×Unit):Option (Sum (Int×Bool×List UInt8×Int×Unit) (Int×Int×List UInt8×Int×Unit)) :=let zUs:=x30.1
 let zLl:=x30.2.1
 let s33:=x30.2.2.1
 let zUt:=x30.2.2.2.1
 br (zUt==(s33.length:Int)) (ob2 (bE n (s33,zUt,())) (fun y35 =>none) (fun y35 =>some (.inr (y35.1,y35.2.1,y35.2.2.1,y35.2.2.2.1,())))) (ob (eH n ([91,58],s33,zUt,())) fun y36 =>br y36.1 (ob2 (bE n (y36.2.1,y36.2.2.1,())) (fun y37 =>none) (fun y37 =>some (.inr (y37.1,y37.2.1,y37.2.2.1,y37.2.2.2.1,())))) (ob (eH n ([93],y36.2.1,y36.2.2.1,())) fun y38 =>br y38.1 (br (!zUs) (ob2 (bE n (y38.2.1,y38.2.2.1,())) (fun y39 =>none) (fun y39 =>some (.inr (y39.1,y39.2.1,y39.2.2.1,y39.2.2.2.1,())))) (br zLl (ob2 (bE n (y38.2.1,y38.2.2.1,())) (fun y40 =>none) (fun y40 =>some (.inr (y40.1,y40.2.1,y40.2.2.1,y40.2.2.2.1,())))) (jn (iV n) (y38.2.1,y38.2.2.1,())))) (br zLl (ob2 (bE n (y38.2.1,y38.2.2.1,())) (fun y47 =>none) (fun y47 =>some (.inr (y47.1,y47.2.1,y47.2.2.1,y47.2.2.2.1,())))) (jn (iV n) (y38.2.1,y38.2.2.1,())))))
def kV (n:Nat) (g0:Bool×Bool×Int×Int×List UInt8×Int×List (List UInt8)×Unit->Option (Sum (Int×Bool×List UInt8×Int×Unit) (Int×Int×List UInt8×Int×Unit))) (x6:Bool×Bool×Int×Int×List UInt8×Int×List (List UInt8)×Unit):Option (Sum (Int×Bool×List UInt8×Int×Unit) (Int×Int×List UInt8×Int×Unit)) :=let Dy:=x6.1
 let zQz:=x6.2.1
 let zWr:=x6.2.2.1
 let Pk:=x6.2.2.2.1
 let s11:=x6.2.2.2.2.1
 let zHq:=x6.2.2.2.2.2.1
 let Sd:=x6.2.2.2.2.2.2.1
 br (decide (Pk<zWr)) (chk ((inB Pk (Sd.length)&&decide (0+(Sd.length)<=Sd.length))) (chk (decide (0+Pk.toNat<Sd.length)) (let v14:List UInt8:=Sd.getD (0+Pk.toNat) (Ty.dflt .str)
 chk (decide ([91].length+v14.length<=aL)) (ob (dR n ([91]++v14,s11,zHq,())) fun y15 =>br (!y15.1) (let v16:Int:=IntKind.wrap .i64 (Pk+1)
 g0 (Dy,zQz,zWr,v16,y15.2.1,y15.2.2.1,Sd,())) (br ((y15.2.1.length:Int)==y15.2.2.1) (ob2 (bE n (y15.2.1,y15.2.2.1,())) (fun y17 =>none) (fun y17 =>some (.inr (y17.1,y17.2.1,y17.2.2.1,y17.2.2.2.1,())))) (let v18:Int:=IntKind.wrap .i64 (y15.2.2.1+1)
 chk ((decide (0<=v18)&&decide (v18<=(y15.2.1.length:Int)))) (chk (decide (v14.length+([93]:List UInt8).length<=aL)) (ob (strings_HasPrefix n (y15.2.1.drop v18.toNat,v14++[93])) fun y19 =>br (!y19) (ob2 (bE n (y15.2.1,y15.2.2.1,())) (fun y20 =>none) (fun y20 =>some (.inr (y20.1,y20.2.1,y20.2.2.1,y20.2.2.2.1,())))) (jn (pO n) (v14,y15.2.1,y15.2.2.1,())))))))))) (ob (dR n ([92,110],s11,zHq,())) fun y27 =>br y27.1 (some (.inl (10,true,y27.2.1,y27.2.2.1,()))) (ob (eH n ([45],y27.2.1,y27.2.2.1,())) fun y28 =>br y28.1 (br (!Dy) (br (!zQz) (ob (eH n ([45,93],y28.2.1,y28.2.2.1,())) fun y29 =>jn (gQ n) (Dy,(!y29.1),y29.2.1,y29.2.2.1,())) (jn (gQ n) (Dy,false,y28.2.1,y28.2.2.1,()))) (jn (gQ n) (Dy,false,y28.2.1,y28.2.2.1,()))) (jn (gQ n) (Dy,false,y28.2.1,y28.2.2.1,()))))
def kN (n:Nat) (x:Bool×Bool×List UInt8×Int×Unit):Option (Sum (Int×Bool×List UInt8×Int×Unit) (Int×Int×List UInt8×Int×Unit)) :=let zAz:=x.1
 let yAn:=x.2.1
 let s3:=x.2.2.1
 let at4:=x.2.2.2.1
 let v5:Int:=(([[46],[61]].length:Nat):Int)
 fix (kV n) n (zAz,yAn,v5,0,s3,at4,[[46],[61]],())
def lX (n:Nat) (x:Bool×List UInt8×Int×Unit):Option (Sum (List (Int)×List UInt8×Int×Unit) (Int×Int×List UInt8×Int×Unit)) :=let zAz:=x.1
 let s2:=x.2.1
 let at3:=x.2.2.1
 ob (dR n ([91,58],s2,at3,())) fun y4 =>br y4.1 (chk ((decide (0<=y4.2.2.1)&&decide (y4.2.2.1<=(y4.2.1.length:Int)))) (let v5:List UInt8:=y4.2.1.drop y4.2.2.1.toNat
 ob (strings_Cut n (v5,[58,93])) fun y6 =>let v7:Int:=IntKind.wrap .i64 (y4.2.2.1+(y6.1.length:Int))
 ob (Bj n y6.1) fun y8 =>br (!y8.2) (ob2 (bE n (y4.2.1,v7,())) (fun y9 =>none) (fun y9 =>some (.inr (y9.1,y9.2.1,y9.2.2.1,y9.2.2.2.1,())))) (ob (dR n ([58,93],y4.2.1,v7,())) fun y10 =>br (!y10.1) (ob2 (bE n (y10.2.1,y10.2.2.1,())) (fun y11 =>none) (fun y11 =>some (.inr (y11.1,y11.2.1,y11.2.2.1,y11.2.2.2.1,())))) (some (.inl (y8.1,y10.2.1,y10.2.2.1,())))))) (ob2 (kN n (zAz,false,y4.2.1,y4.2.2.1,())) (fun y12 =>ob (eH n ([45],y12.2.2.1,y12.2.2.2.1,())) fun y13 =>br (!y13.1) (ob (cZ n (y12.1,y12.1)) fun y14 =>some (.inl (y14,y13.2.1,y13.2.2.1,()))) (ob (eH n ([45,93],y13.2.1,y13.2.2.1,())) fun y15 =>br y15.1 (ob (cZ n (y12.1,y12.1)) fun y16 =>some (.inl (y16,y15.2.1,y15.2.2.1,()))) (let v17:Int:=IntKind.wrap .i64 (y15.2.2.1+1)
 br (v17==(y15.2.1.length:Int)) (ob (cZ n (y12.1,y12.1)) fun y18 =>some (.inl (y18,y15.2.1,y15.2.2.1,()))) (let v19:Int:=IntKind.wrap .i64 (y15.2.2.1+1)
 ob2 (kN n (false,true,y15.2.1,v19,())) (fun y20 =>br (!y12.2.1) (ob2 (bE n (y20.2.2.1,y20.2.2.2.1,())) (fun y21 =>none) (fun y21 =>some (.inr (y21.1,y21.2.1,y21.2.2.1,y21.2.2.2.1,())))) (br (!y20.2.1) (ob2 (bE n (y20.2.2.1,y20.2.2.2.1,())) (fun y22 =>none) (fun y22 =>some (.inr (y22.1,y22.2.1,y22.2.2.1,y22.2.2.2.1,())))) (br (decide (y20.1<y12.1)) (ob2 (bE n (y20.2.2.1,y20.2.2.2.1,())) (fun y23 =>none) (fun y23 =>some (.inr (y23.1,y23.2.1,y23.2.2.1,y23.2.2.2.1,())))) (ob (cZ n (y12.1,y20.1)) fun y24 =>some (.inl (y24,y20.2.2.1,y20.2.2.2.1,())))))) (fun y20 =>some (.inr (y20.1,y20.2.1,y20.2.2.1,y20.2.2.2.1,()))))))) (fun y12 =>some (.inr (y12.1,y12.2.1,y12.2.2.1,y12.2.2.2.1,()))))
def kI (n:Nat) (g0:Bool×Bool×List (Int)×List UInt8×Int×Unit->Option (Sum (List (Int)×List UInt8×Int×Unit) (Int×Int×List (Int)×List UInt8×Int×Unit))) (x7:Bool×Bool×List (Int)×List UInt8×Int×Unit):Option (Sum (List (Int)×List UInt8×Int×Unit) (Int×Int×List (Int)×List UInt8×Int×Unit)) :=let zOp:=x7.1
 let zBa:=x7.2.1
 let b10:=x7.2.2.1
 let s11:=x7.2.2.2.1
 let zHq:=x7.2.2.2.2.1
 br zBa (ob2 (lX n (zBa,s11,zHq,())) (fun y13 =>ob (nJ n [b10,y13.1]) fun y14 =>g0 (zOp,false,y14,y13.2.1,y13.2.2.1,())) (fun y13 =>some (.inr (y13.1,y13.2.1,b10,y13.2.2.1,y13.2.2.2.1,())))) (ob (dR n ([93],s11,zHq,())) fun y15 =>br (!y15.1) (ob2 (lX n (zBa,y15.2.1,y15.2.2.1,())) (fun y16 =>ob (nJ n [b10,y16.1]) fun y17 =>g0 (zOp,false,y17,y16.2.1,y16.2.2.1,())) (fun y16 =>some (.inr (y16.1,y16.2.1,b10,y16.2.2.1,y16.2.2.2.1,())))) (br zOp (ob (Dx n b10) fun y18 =>br (Ty.beq (.arr 4 (.int .u64)) y18 ([0,0,0,0])) (ob2 (bE n (y15.2.1,y15.2.2.1,())) (fun y19 =>none) (fun y19 =>some (.inr (y19.1,y19.2.1,y18,y19.2.2.1,y19.2.2.2.1,())))) (some (.inl (y18,y15.2.1,y15.2.2.1,())))) (br (Ty.beq (.arr 4 (.int .u64)) b10 ([0,0,0,0])) (ob2 (bE n (y15.2.1,y15.2.2.1,())) (fun y20 =>none) (fun y20 =>some (.inr (y20.1,y20.2.1,b10,y20.2.2.1,y20.2.2.2.1,())))) (some (.inl (b10,y15.2.1,y15.2.2.1,()))))))
def jX (n:Nat) (x:List (Int)×List UInt8×Int×Unit):Option (Sum (List (Int)×List UInt8×Int×Unit) (Int×Int×List (Int)×List UInt8×Int×Unit)) :=let b1:=x.1
 let s2:=x.2.1
 let at3:=x.2.2.1
 ob (dR n ([91],s2,at3,())) fun y4 =>br (!y4.1) (ob2 (bE n (y4.2.1,y4.2.2.1,())) (fun y5 =>none) (fun y5 =>some (.inr (y5.1,y5.2.1,b1,y5.2.2.1,y5.2.2.2.1,())))) (ob (dR n ([94],y4.2.1,y4.2.2.1,())) fun y6 =>fix (kI n) n (y6.1,true,b1,y6.2.1,y6.2.2.1,()))
def fI (n:Nat) (x:List (Int)×List UInt8×Int×Unit):Option (Int×Int×List (Int)×List UInt8×Int×Unit):=ob2 (jX n x) (fun y=>some (0,0,y)) (fun y=>some y)
def pQ (n:Nat) (x:List UInt8):Option (List (Int)×Int×Int) :=let s_0:=x
 ob (fI n ([0,0,0,0],s_0,0,())) fun y1 =>br (y1.1 != 0) (some ([0,0,0,0],0,y1.1)) (some (y1.2.2.1,y1.2.2.2.2.1,0))
def iE (n:Nat) (x:Int×List (Int)×Int×Int×Int×Int×Int×Unit):Option (Int) :=let n_0:=x
 br (n_0.1==4) (br (n_0.1==4) (some 2) (br (n_0.1==6) (br (n_0.1==6) (some 1) (some 0)) (br (n_0.1==7) (some 1) (some 0)))) (br (n_0.1==5) (some 2) (br (n_0.1==6) (br (n_0.1==6) (some 1) (some 0)) (br (n_0.1==7) (some 1) (some 0))))
def bS (n:Nat) (x:Int×List (Int)×Int×Int×Int×Int×Int×Unit):Option (NdT) :=let n_0:=x
 br (n_0.1==1) (some (n_0.1,(n_0.2.1,(0,(0,(0,(0,(0,())))))))) (br (n_0.1==4) (br (n_0.1==4) (some (n_0.1,([0,0,0,0],(n_0.2.2.1,(n_0.2.2.2.1,(0,(0,(0,())))))))) (br (n_0.1==6) (some (n_0.1,([0,0,0,0],(n_0.2.2.1,(0,(n_0.2.2.2.2.1,(n_0.2.2.2.2.2.1,(0,())))))))) (br (n_0.1==7) (some (n_0.1,([0,0,0,0],(n_0.2.2.1,(0,(0,(0,n_0.2.2.2.2.2.2))))))) (br (n_0.1==8) (some (n_0.1,([0,0,0,0],(0,(0,(0,(0,n_0.2.2.2.2.2.2))))))) (some (n_0.1,([0,0,0,0],(0,(0,(0,(0,(0,())))))))))))) (br (n_0.1==5) (some (n_0.1,([0,0,0,0],(n_0.2.2.1,(n_0.2.2.2.1,(0,(0,(0,())))))))) (br (n_0.1==6) (some (n_0.1,([0,0,0,0],(n_0.2.2.1,(0,(n_0.2.2.2.2.1,(n_0.2.2.2.2.2.1,(0,())))))))) (br (n_0.1==7) (some (n_0.1,([0,0,0,0],(n_0.2.2.1,(0,(0,(0,n_0.2.2.2.2.2.2))))))) (br (n_0.1==8) (some (n_0.1,([0,0,0,0],(0,(0,(0,(0,n_0.2.2.2.2.2.2))))))) (some (n_0.1,([0,0,0,0],(0,(0,(0,(0,(0,())))))))))))))
def pR(n:Nat)(x:Int × List (Int) × Int × Int × Int × Int × Int × Unit):Option (Bool):=
 let n_0:Int × List (Int) × Int × Int × Int × Int × Int × Unit:=x
 br (decide (n_0.1<0)) (
  some false) (
  br (decide (n_0.1>8)) (
   some false) (
   ob (bS n n_0) λy1 =>
   br (!(Ty.beq aC n_0 y1)) (
    some false) (
    br (n_0.1==1) (
     some (!(Ty.beq (.arr 4 (.int .u64)) n_0.2.1 ([0,0,0,0])))) (
     br (n_0.1==6) (
      br (decide (n_0.2.2.2.2.1≥0)) (
       br (decide (n_0.2.2.2.2.1<=255)) (
        br (n_0.2.2.2.2.2.1==(-1)) (
         some true) (
         let v2:Int:=if 1>n_0.2.2.2.2.1 then 1 else n_0.2.2.2.2.1
         br (decide (n_0.2.2.2.2.2.1≥v2)) (
          some (decide (n_0.2.2.2.2.2.1<=255))) (
          some false))) (
        some false)) (
       some false)) (
      br (n_0.1==7) (
       br (n_0.1==7) (
        br (decide (n_0.2.2.2.2.2.2.1≥1)) (
         some (decide (n_0.2.2.2.2.2.2.1<=9))) (
         some false)) (
        some true)) (
       br (n_0.1==8) (
        br (decide (n_0.2.2.2.2.2.2.1≥1)) (
         some (decide (n_0.2.2.2.2.2.2.1<=9))) (
         some false)) (
        some true)))))))
def Hr (n:Nat) (g0:List (Int)×Int×Int×Int×Unit->Option (Int)) (x1:List (Int)×Int×Int×Int×Unit):Option (Int) :=let s_2:=x1.1
 let v_3:=x1.2.1
 let oD:=x1.2.2.1
 let zHr:=x1.2.2.2.1
 br (decide (zHr<oD)) (chk (inB zHr s_2.length) (let v6:Int:=bF (Ty.dflt (.int .i64)) s_2 zHr
 br (v_3==v6) (some zHr) (let v7:Int:=IntKind.wrap .i64 (zHr+1)
 g0 (s_2,v_3,oD,v7,())))) (some (-1))
def wQ (n:Nat) (x:List (Int)×Int):Option (Int) :=let s_0:=x.1
 let v_1:=x.2
 fix (Hr n) n (s_0,v_1,(s_0.length:Int),0,())
def nS (n:Nat) (x:List (Int)×Int):Option (Bool) :=let s_0:=x.1
 let v_1:=x.2
 ob (wQ n (s_0,v_1)) fun y1 =>some (decide (y1≥0))
def jV (n:Nat) (x:List (NdT)×Int×List (Int)×Int×Int×Int×Int×Int×Unit):Option (Bool) :=let l_0:=x.1
 let n_1:=x.2
 br (n_1.1==4) (chk (inB n_1.2.2.1 l_0.length) (let v1:Int×List (Int)×Int×Int×Int×Int×Int×Unit:=bF (Ty.dflt aC) l_0 n_1.2.2.1
 br (v1.1 != 4) (chk (inB n_1.2.2.1 l_0.length) (let v2:Int×List (Int)×Int×Int×Int×Int×Int×Unit:=bF (Ty.dflt aC) l_0 n_1.2.2.1
 br (v2.1 != 5) (chk (inB n_1.2.2.2.1 l_0.length) (let v3:Int×List (Int)×Int×Int×Int×Int×Int×Unit:=bF (Ty.dflt aC) l_0 n_1.2.2.2.1
 some (v3.1 != 5))) (some false))) (some false))) (br (n_1.1==5) (chk (inB n_1.2.2.1 l_0.length) (let v4:Int×List (Int)×Int×Int×Int×Int×Int×Unit:=bF (Ty.dflt aC) l_0 n_1.2.2.1
 some (v4.1 != 5))) (br (n_1.1==6) (chk (inB n_1.2.2.1 l_0.length) (let v5:Int×List (Int)×Int×Int×Int×Int×Int×Unit:=bF (Ty.dflt aC) l_0 n_1.2.2.1
 ob (nS n ([1,7,8],v5.1)) fun y6 =>some y6)) (some true)))
def gF (n:Nat) (g0:List (NdT)×List (NdT)×Int×Int×List (Int)×Unit->Option (Bool)) (x1:List (NdT)×List (NdT)×Int×Int×List (Int)×Unit):Option (Bool) :=let l_2:=x1.1
 let Pm:=x1.2.1
 let Vn:=x1.2.2.1
 let kW:=x1.2.2.2.1
 let aW:=x1.2.2.2.2.1
 br (decide (kW<Vn)) (chk (inB kW Pm.length) (let v7:Int×List (Int)×Int×Int×Int×Int×Int×Unit:=bF (Ty.dflt aC) Pm kW
 let v8:Int:=((aW.length:Nat):Int)
 ob (iE n v7) fun y9 =>let v10:Int:=IntKind.wrap .i64 (v8-y9)
 ob (pR n v7) fun y11 =>br (!y11) (some false) (br (decide (v10 < 0)) (some false) (br (v7.1==0) (br (decide ((l_2.length:Int) > 1)) (some false) (chk ((decide (0<=v10)&&decide (v10<=(aW.length:Int)))) (let v12:Int:=(((aW.length)-(v10.toNat):Nat):Int)
 br (decide (v12 > 0)) (chk ((inB 0 ((aW.length)-(v10.toNat))&&decide ((0+(v10.toNat))+((aW.length)-(v10.toNat))<=aW.length))) (chk (decide ((0+(v10.toNat))+(0:Int).toNat<aW.length)) (let v13:Int:=aW.getD ((0+(v10.toNat))+(0:Int).toNat) (Ty.dflt (.int .i64))
 br (v13 != v7.2.2.1) (some false) (let v14:Int:=(((aW.length)-(v10.toNat):Nat):Int)
 br (decide (v14 > 1)) (chk ((inB 1 ((aW.length)-(v10.toNat))&&decide ((0+(v10.toNat))+((aW.length)-(v10.toNat))<=aW.length))) (chk (decide ((0+(v10.toNat))+(1:Int).toNat<aW.length)) (let v15:Int:=aW.getD ((0+(v10.toNat))+(1:Int).toNat) (Ty.dflt (.int .i64))
 br (v15 != v7.2.2.2.1) (some false) (ob (jV n (l_2,v7)) fun y16 =>br (!y16) (some false) (chk ((decide (0<=v10)&&decide (v10<=(aW.length:Int)))) (chk ((Nat.ble (v10.toNat) aW.length&&Nat.ble (((v10.toNat)+([kW]:List (Int)).length) * 8) room)) (let r17:List (Int):=aW.take (v10.toNat)++[kW]
 let v18:Int:=IntKind.wrap .i64 (kW+1)
 g0 (l_2,Pm,Vn,v18,r17,())))))))) (ob (jV n (l_2,v7)) fun y19 =>br (!y19) (some false) (chk ((decide (0<=v10)&&decide (v10<=(aW.length:Int)))) (chk ((Nat.ble (v10.toNat) aW.length&&Nat.ble (((v10.toNat)+([kW]:List (Int)).length) * 8) room)) (let r20:List (Int):=aW.take (v10.toNat)++[kW]
 let v21:Int:=IntKind.wrap .i64 (kW+1)
 g0 (l_2,Pm,Vn,v21,r20,()))))))))) (ob (jV n (l_2,v7)) fun y22 =>br (!y22) (some false) (chk ((decide (0<=v10)&&decide (v10<=(aW.length:Int)))) (chk ((Nat.ble (v10.toNat) aW.length&&Nat.ble (((v10.toNat)+([kW]:List (Int)).length) * 8) room)) (let r23:List (Int):=aW.take (v10.toNat)++[kW]
 let v24:Int:=IntKind.wrap .i64 (kW+1)
 g0 (l_2,Pm,Vn,v24,r23,())))))))) (chk ((decide (0<=v10)&&decide (v10<=(aW.length:Int)))) (let v25:Int:=(((aW.length)-(v10.toNat):Nat):Int)
 br (decide (v25 > 0)) (chk ((inB 0 ((aW.length)-(v10.toNat))&&decide ((0+(v10.toNat))+((aW.length)-(v10.toNat))<=aW.length))) (chk (decide ((0+(v10.toNat))+(0:Int).toNat<aW.length)) (let v26:Int:=aW.getD ((0+(v10.toNat))+(0:Int).toNat) (Ty.dflt (.int .i64))
 br (v26 != v7.2.2.1) (some false) (let v27:Int:=(((aW.length)-(v10.toNat):Nat):Int)
 br (decide (v27 > 1)) (chk ((inB 1 ((aW.length)-(v10.toNat))&&decide ((0+(v10.toNat))+((aW.length)-(v10.toNat))<=aW.length))) (chk (decide ((0+(v10.toNat))+(1:Int).toNat<aW.length)) (let v28:Int:=aW.getD ((0+(v10.toNat))+(1:Int).toNat) (Ty.dflt (.int .i64))
 br (v28 != v7.2.2.2.1) (some false) (ob (jV n (l_2,v7)) fun y29 =>br (!y29) (some false) (chk ((decide (0<=v10)&&decide (v10<=(aW.length:Int)))) (chk ((Nat.ble (v10.toNat) aW.length&&Nat.ble (((v10.toNat)+([kW]:List (Int)).length) * 8) room)) (let r30:List (Int):=aW.take (v10.toNat)++[kW]
 let v31:Int:=IntKind.wrap .i64 (kW+1)
 g0 (l_2,Pm,Vn,v31,r30,())))))))) (ob (jV n (l_2,v7)) fun y32 =>br (!y32) (some false) (chk ((decide (0<=v10)&&decide (v10<=(aW.length:Int)))) (chk ((Nat.ble (v10.toNat) aW.length&&Nat.ble (((v10.toNat)+([kW]:List (Int)).length) * 8) room)) (let r33:List (Int):=aW.take (v10.toNat)++[kW]
 let v34:Int:=IntKind.wrap .i64 (kW+1)
 g0 (l_2,Pm,Vn,v34,r33,()))))))))) (ob (jV n (l_2,v7)) fun y35 =>br (!y35) (some false) (chk ((decide (0<=v10)&&decide (v10<=(aW.length:Int)))) (chk ((Nat.ble (v10.toNat) aW.length&&Nat.ble (((v10.toNat)+([kW]:List (Int)).length) * 8) room)) (let r36:List (Int):=aW.take (v10.toNat)++[kW]
 let v37:Int:=IntKind.wrap .i64 (kW+1)
 g0 (l_2,Pm,Vn,v37,r36,()))))))))))) (let v38:Int:=((aW.length:Nat):Int)
 some (v38==1))
def uM (n:Nat) (x:List (NdT)):Option (Bool) :=let l_0:=x
 fix (gF n) n (l_0,l_0,(l_0.length:Int),0,[],())
def dF (n:Nat) (dL:(Int×List (NdT)×Int×Bool×List (Bool)×Bool×Unit)->Option (List (NdT)×Int×Bool×List (Bool)×Bool×Unit)) (x:Int×List (NdT)×Int×Bool×List (Bool)×Bool×Unit):Option (List (NdT)×Int×Bool×List (Bool)×Bool×Unit) :=let i_1:=x.1
 let b2:=x.2.1
 let b3:=x.2.2.1
 let b4:=x.2.2.2.1
 let b5:=x.2.2.2.2.1
 let b6:=x.2.2.2.2.2.1
 chk (inB i_1 b2.length) (let v7:Int×List (Int)×Int×Int×Int×Int×Int×Unit:=bF (Ty.dflt aC) b2 i_1
 br (v7.1==4) (br (v7.1==4) (ob (dL (v7.2.2.1,b2,b3,b4,b5,b6,())) fun y8 =>ob (dL (v7.2.2.2.1,y8.1,y8.2.1,y8.2.2.1,y8.2.2.2.1,y8.2.2.2.2.1,())) fun y9 =>some (y9.1,y9.2.1,y9.2.2.1,y9.2.2.2.1,y9.2.2.2.2.1,())) (br (v7.1==6) (ob (dL (v7.2.2.1,b2,b3,b4,b5,b6,())) fun y10 =>some (y10.1,y10.2.1,y10.2.2.1,y10.2.2.2.1,y10.2.2.2.2.1,())) (br (v7.1==7) (let v11:Int:=IntKind.wrap .i64 (b3+1)
 br b4 (ob (dL (v7.2.2.1,b2,v11,(v7.2.2.2.2.2.2.1==v11),b5,b6,())) fun y12 =>chk (inB v7.2.2.2.2.2.2.1 10) (chk (decide (v7.2.2.2.2.2.2.1.toNat < 10)) (some (y12.1,y12.2.1,y12.2.2.1,y12.2.2.2.1.set (v7.2.2.2.2.2.2.1.toNat) true,y12.2.2.2.2.1,())))) (ob (dL (v7.2.2.1,b2,v11,false,b5,b6,())) fun y13 =>chk (inB v7.2.2.2.2.2.2.1 10) (chk (decide (v7.2.2.2.2.2.2.1.toNat < 10)) (some (y13.1,y13.2.1,y13.2.2.1,y13.2.2.2.1.set (v7.2.2.2.2.2.2.1.toNat) true,y13.2.2.2.2.1,()))))) (br (v7.1==8) (br b4 (chk (inB v7.2.2.2.2.2.2.1 10) (chk (decide (v7.2.2.2.2.2.2.1.toNat < 10)) (some (b2,b3,b5.getD (v7.2.2.2.2.2.2.1.toNat) (Ty.dflt .bool),b5,true,())))) (some (b2,b3,false,b5,true,()))) (some (b2,b3,b4,b5,b6,())))))) (br (v7.1==5) (ob (dL (v7.2.2.1,b2,b3,b4,b5,b6,())) fun y14 =>ob (dL (v7.2.2.2.1,y14.1,y14.2.1,y14.2.2.1,y14.2.2.2.1,y14.2.2.2.2.1,())) fun y15 =>some (y15.1,y15.2.1,y15.2.2.1,y15.2.2.2.1,y15.2.2.2.2.1,())) (br (v7.1==6) (ob (dL (v7.2.2.1,b2,b3,b4,b5,b6,())) fun y16 =>some (y16.1,y16.2.1,y16.2.2.1,y16.2.2.2.1,y16.2.2.2.2.1,())) (br (v7.1==7) (let v17:Int:=IntKind.wrap .i64 (b3+1)
 br b4 (ob (dL (v7.2.2.1,b2,v17,(v7.2.2.2.2.2.2.1==v17),b5,b6,())) fun y18 =>chk (inB v7.2.2.2.2.2.2.1 10) (chk (decide (v7.2.2.2.2.2.2.1.toNat < 10)) (some (y18.1,y18.2.1,y18.2.2.1,y18.2.2.2.1.set (v7.2.2.2.2.2.2.1.toNat) true,y18.2.2.2.2.1,())))) (ob (dL (v7.2.2.1,b2,v17,false,b5,b6,())) fun y19 =>chk (inB v7.2.2.2.2.2.2.1 10) (chk (decide (v7.2.2.2.2.2.2.1.toNat < 10)) (some (y19.1,y19.2.1,y19.2.2.1,y19.2.2.2.1.set (v7.2.2.2.2.2.2.1.toNat) true,y19.2.2.2.2.1,()))))) (br (v7.1==8) (br b4 (chk (inB v7.2.2.2.2.2.2.1 10) (chk (decide (v7.2.2.2.2.2.2.1.toNat < 10)) (some (b2,b3,b5.getD (v7.2.2.2.2.2.2.1.toNat) (Ty.dflt .bool),b5,true,())))) (some (b2,b3,false,b5,true,()))) (some (b2,b3,b4,b5,b6,())))))))
def lY (n:Nat):(Int×List (NdT)×Int×Bool×List (Bool)×Bool×Unit)->Option (List (NdT)×Int×Bool×List (Bool)×Bool×Unit) :=zUh (fun n r x=>dF n r x) n
def Ak (n:Nat) (x:List (NdT)):Option (Int×Bool×Bool) :=let l_0:=x
 let v1:Int:=IntKind.wrap .i64 ((l_0.length:Int) - 1)
 ob (lY n (v1,l_0,0,true,[false,false,false,false,false,false,false,false,false,false],false,())) fun y2 =>some (y2.2.1,y2.2.2.2.2.1,y2.2.2.1)
def uN (n:Nat) (x:List (NdT)):Option (Int×Bool×Bool) :=let l_0:=x
 br ((l_0.length:Int)==0) (some (0,false,false)) (br (decide ((l_0.length:Int) > 120)) (some (0,false,false)) (ob (uM n l_0) fun y1 =>br (!y1) (some (0,false,false)) (ob (Ak n l_0) fun y2 =>br (!y2.2.2) (some (0,false,false)) (some (y2.1,y2.2.1,true)))))
def yF (n:Nat) (x:List (NdT)):Option (Bool) :=let l_0:=x
 ob (uN n l_0) fun y1 =>some y1.2.2
def Vo (n:Nat) (x:Int):Option (List UInt8) :=let b_0:=x
 br (b_0==10) (some [92,110]) (ob (strings_IndexByte n ([46,91,92,42,94,36],b_0)) fun y1 =>br (decide (y1≥0)) (chk (decide ([92].length+(qO [b_0]).length<=aL)) (some ([92]++(qO [b_0])))) (some (qO [b_0])))
def Dz (n:Nat) (x:List (Int)×Int):Option (Bool) :=let s_0:=x.1
 let b_1:=x.2
 chk (decide (0<=6)) (chk (inB (nZ .u8 b_1 6) 4) (chk (decide ((nZ .u8 b_1 6).toNat < 4)) (let v1:Int:=s_0.getD ((nZ .u8 b_1 6).toNat) (Ty.dflt (.int .u64))
 chk (decide (0<=dW .u8 .and b_1 63)) (let v2:Int:=nZ .u64 v1 (dW .u8 .and b_1 63)
 some ((dW .u64 .and v2 1)==1)))))
def zBb (n:Nat) (g0:List UInt8×Int×Int×List (List UInt8)×Unit->Option (List (List UInt8))) (x1:List UInt8×Int×Int×List (List UInt8)×Unit):Option (List (List UInt8)) :=let s_2:=x1.1
 let zOq:=x1.2.1
 let oD:=x1.2.2.1
 let vI:=x1.2.2.2.1
 br (decide (oD<zOq)) (let v6:Int:=((vI.length:Nat):Int)
 let v7:Int:=IntKind.wrap .i64 (v6 - 1)
 br (decide (v7≥0)) (chk (inB oD s_2.length) (let v8:Int:=((bF 0 s_2 oD).toNat:Int)
 let v9:Int:=IntKind.wrap .i64 (oD - 1)
 chk (inB v9 s_2.length) (let v10:Int:=((bF 0 s_2 v9).toNat:Int)
 let v11:Int:=IntKind.wrap .u8 (v10+1)
 br (v8==v11) (chk ((inB v7 (vI.length)&&decide (0+(vI.length)<=vI.length))) (chk (decide (0+v7.toNat<vI.length)) (let v12:List UInt8:=vI.getD (0+v7.toNat) (Ty.dflt .str)
 let v13:Int:=IntKind.wrap .i64 (oD+1)
 chk ((decide (0<=v13)&&decide (v13<=(s_2.length:Int))&&(decide (0<=oD)&&decide (oD<=v13)))) (let v14:List UInt8:=(s_2.take v13.toNat).drop oD.toNat
 chk (decide (v12.length+v14.length<=aL)) (chk ((inB v7 (vI.length)&&decide (0+(vI.length)<=vI.length))) (chk (decide (0+v7.toNat<vI.length)) (let r15:List (List UInt8):=vI.set (0+v7.toNat) (v12++v14)
 let v16:Int:=IntKind.wrap .i64 (oD+1)
 g0 (s_2,zOq,v16,r15,())))))))) (let v17:Int:=IntKind.wrap .i64 (oD+1)
 chk ((decide (0<=v17)&&decide (v17<=(s_2.length:Int))&&(decide (0<=oD)&&decide (oD<=v17)))) (let v18:List UInt8:=(s_2.take v17.toNat).drop oD.toNat
 chk (Nat.ble ((vI.length+([v18]:List (List UInt8)).length) * 16) room) (let v19:Int:=IntKind.wrap .i64 (oD+1)
 g0 (s_2,zOq,v19,vI++[v18],()))))))) (let v20:Int:=IntKind.wrap .i64 (oD+1)
 chk ((decide (0<=v20)&&decide (v20<=(s_2.length:Int))&&(decide (0<=oD)&&decide (oD<=v20)))) (let v21:List UInt8:=(s_2.take v20.toNat).drop oD.toNat
 chk (Nat.ble ((vI.length+([v21]:List (List UInt8)).length) * 16) room) (let v22:Int:=IntKind.wrap .i64 (oD+1)
 g0 (s_2,zOq,v22,vI++[v21],()))))) (some vI)
def Vp (n:Nat) (x:List UInt8):Option (List (List UInt8)) :=let s_0:=x
 fix (zBb n) n (s_0,(s_0.length:Int),0,[],())
def zBc (n:Nat) (g2:List UInt8×Int×Int×List (Int)×List (List UInt8)×Unit->Option (List UInt8)) (x35:List UInt8×Int×Int×List (Int)×List (List UInt8)×Unit):Option (List UInt8) :=let Ht:=x35.1
 let Je:=x35.2.1
 let yG:=x35.2.2.1
 let b39:=x35.2.2.2.1
 let Al:=x35.2.2.2.2.1
 br (decide (yG<Je)) (chk ((inB yG (Al.length)&&decide (0+(Al.length)<=Al.length))) (chk (decide (0+yG.toNat<Al.length)) (let v41:List UInt8:=Al.getD (0+yG.toNat) (Ty.dflt .str)
 chk (inB 0 v41.length) (let v42:Int:=((bF 0 v41 0).toNat:Int)
 ob (Dz n (b39,v42)) fun y43 =>br y43 (br (v41==[10]) (chk (decide (Ht.length+([92,110]:List UInt8).length<=aL)) (let v44:Int:=IntKind.wrap .i64 (yG+1)
 g2 (Ht++[92,110],Je,v44,b39,Al,()))) (chk (inB 0 v41.length) (let v45:Int:=((bF 0 v41 0).toNat:Int)
 ob (Dz n (b39,v45)) fun y46 =>br y46 (chk (decide (Ht.length+v41.length<=aL)) (let v47:Int:=IntKind.wrap .i64 (yG+1)
 g2 (Ht++v41,Je,v47,b39,Al,()))) (let v48:Int:=IntKind.wrap .i64 (yG+1)
 g2 (Ht,Je,v48,b39,Al,()))))) (chk (inB 0 v41.length) (let v49:Int:=((bF 0 v41 0).toNat:Int)
 ob (Dz n (b39,v49)) fun y50 =>br y50 (chk (decide (Ht.length+v41.length<=aL)) (let v51:Int:=IntKind.wrap .i64 (yG+1)
 g2 (Ht++v41,Je,v51,b39,Al,()))) (let v52:Int:=IntKind.wrap .i64 (yG+1)
 g2 (Ht,Je,v52,b39,Al,())))))))) (chk (decide (Ht.length+([93]:List UInt8).length<=aL)) (some (Ht++[93])))
def zBd (n:Nat) (g1:List UInt8×List (List UInt8)×Int×Int×List (Int)×Unit->Option (List UInt8)) (x22:List UInt8×List (List UInt8)×Int×Int×List (Int)×Unit):Option (List UInt8) :=let zHs:=x22.1
 let Yt:=x22.2.1
 let zHt:=x22.2.2.1
 let Pn:=x22.2.2.2.1
 let b27:=x22.2.2.2.2.1
 br (decide (Pn<zHt)) (chk (inB Pn Yt.length) (let v28:List UInt8:=bF (Ty.dflt .str) Yt Pn
 br (decide ((v28.length:Int) > 2)) (chk ((decide (0<=(1:Int))&&decide ((1:Int)<=(v28.length:Int)))) (chk (decide ((v28.take (1:Int).toNat).length+([45]:List UInt8).length<=aL)) (let v29:List UInt8:=(v28.take (1:Int).toNat)++[45]
 let v30:Int:=IntKind.wrap .i64 ((v28.length:Int) - 1)
 chk ((decide (0<=v30)&&decide (v30<=(v28.length:Int)))) (chk (decide (v29.length+(v28.drop v30.toNat).length<=aL)) (let v31:List UInt8:=v29++(v28.drop v30.toNat)
 chk (decide (zHs.length+v31.length<=aL)) (let v32:Int:=IntKind.wrap .i64 (Pn+1)
 g1 (zHs++v31,Yt,zHt,v32,b27,()))))))) (chk (decide (zHs.length+v28.length<=aL)) (let v33:Int:=IntKind.wrap .i64 (Pn+1)
 g1 (zHs++v28,Yt,zHt,v33,b27,()))))) (let v34:Int:=(([[10],[91],[92],[94],[45]].length:Nat):Int)
 fix (zBc n) n (zHs,v34,0,b27,[[10],[91],[92],[94],[45]],()))
def zBe (n:Nat) (g0:List UInt8×List (Int)×Int×Int×List (Int)×List (Int)×Unit->Option (List UInt8)) (x10:List UInt8×List (Int)×Int×Int×List (Int)×List (Int)×Unit):Option (List UInt8) :=let zUu:=x10.1
 let Yu:=x10.2.1
 let zHu:=x10.2.2.1
 let Po:=x10.2.2.2.1
 let b15:=x10.2.2.2.2.1
 let zFg:=x10.2.2.2.2.2.1
 br (decide (Po<zHu)) (chk (inB Po Yu.length) (let v17:Int:=bF (Ty.dflt (.int .u8)) Yu Po
 ob (strings_IndexByte n ([93,91,92,94,45,10],v17)) fun y18 =>br (decide (y18 < 0)) (chk (Nat.ble ((zFg.length+([v17]:List (Int)).length) * 1) room) (let v19:Int:=IntKind.wrap .i64 (Po+1)
 g0 (zUu,Yu,zHu,v19,b15,zFg++[v17],()))) (let v20:Int:=IntKind.wrap .i64 (Po+1)
 g0 (zUu,Yu,zHu,v20,b15,zFg,())))) (ob (Vp n (qO zFg)) fun y21 =>fix (zBd n) n (zUu,y21,(y21.length:Int),0,b15,()))
def Jf (n:Nat) (x5:List UInt8×List UInt8×List (Int)×Unit):Option (List UInt8) :=let l_6:=x5.1
 let b_7:=x5.2.1
 let b8:=x5.2.2.1
 chk (Nat.ble l_6.length room) (let v9:Int:=((bN l_6).length:Int)
 fix (zBe n) n (b_7,bN l_6,v9,0,b8,[],()))
def Lf (n:Nat) (x:List (Int)):Option (List UInt8) :=let s_0:=x
 ob (oO n s_0) fun y1 =>br ((y1.length:Int)==0) (some []) (br ((y1.length:Int)==1) (chk (inB 0 y1.length) (let v2:Int:=((bF 0 y1 0).toNat:Int)
 ob (Vo n v2) fun y3 =>some y3)) (br ((y1.length:Int)==256) (some [46]) (br (y1==[45,94]) (some [91,45,94,93]) (ob (Dz n (s_0,93)) fun y4 =>br y4 (chk (decide ([91].length+([93]:List UInt8).length<=aL)) (jn (Jf n) (y1,[91]++[93],s_0,()))) (jn (Jf n) (y1,[91],s_0,()))))))
def wJ (n:Nat) (g0:List (NdT)×Int×Int×List (List UInt8)×Unit->Option (List UInt8)) (g1:Int×List UInt8×List (NdT)×Int×Int×List (Int)×Int×Int×List (List UInt8)×Unit->Option (List UInt8)) (x16:Int×List UInt8×List (NdT)×Int×Int×List (Int)×Int×Int×List (List UInt8)×Unit):Option (List UInt8) :=let zBf:=x16.1
 let zHv:=x16.2.1
 let zRa:=x16.2.2.1
 let zRb:=x16.2.2.2.1
 let zRc:=x16.2.2.2.2.1
 let zHw:=x16.2.2.2.2.2.1
 let zRd:=x16.2.2.2.2.2.2.1
 let Yv:=x16.2.2.2.2.2.2.2.1
 let yH:=x16.2.2.2.2.2.2.2.2.1
 br (decide (Yv<zRd)) (chk (inB Yv zHw.length) (let v26:Int:=bF (Ty.dflt (.int .u8)) zHw Yv
 chk ((!decide (16 = 0))) (let v27:Int:=IntKind.wrap .u64 (Int.tdiv (IntKind.wrap .u64 v26) 16)
 ob (jE n (v27,16)) fun y28 =>chk ((!decide (16 = 0))) (let v29:Int:=Int.tmod (IntKind.wrap .u64 v26) 16
 ob (jE n (v29,16)) fun y30 =>chk (decide (y28.length+y30.length<=aL)) (chk (decide (zHv.length+(y28++y30).length<=aL)) (let v31:Int:=IntKind.wrap .i64 (Yv+1)
 g1 (zBf,zHv++(y28++y30),zRa,zRb,zRc,zHw,zRd,v31,yH,()))))))) (chk (decide (zHv.length+([93]:List UInt8).length<=aL)) (chk ((decide (0<=zBf)&&decide (zBf<=(yH.length:Int)))) (chk ((Nat.ble (zBf.toNat) yH.length&&Nat.ble (((zBf.toNat)+([zHv++[93]]:List (List UInt8)).length) * 16) room)) (let r32:List (List UInt8):=yH.take (zBf.toNat)++[zHv++[93]]
 let v33:Int:=IntKind.wrap .i64 (zRc+1)
 g0 (zRa,zRb,v33,r32,())))))
def gL (n:Nat) (g0:List (NdT)×Int×Int×List (List UInt8)×Unit->Option (List UInt8)) (x2:List (NdT)×Int×Int×List (List UInt8)×Unit):Option (List UInt8) :=let wK:=x2.1
 let yI:=x2.2.1
 let uO:=x2.2.2.1
 let aW:=x2.2.2.2.1
 br (decide (uO<yI)) (chk (inB uO wK.length) (let v7:Int×List (Int)×Int×Int×Int×Int×Int×Unit:=bF (Ty.dflt aC) wK uO
 let v8:Int:=((aW.length:Nat):Int)
 ob (iE n v7) fun y9 =>let v10:Int:=IntKind.wrap .i64 (v8-y9)
 chk ((decide (0<=v10)&&decide (v10<=(aW.length:Int)))) (chk ((Nat.ble ((0+(v10.toNat))+((aW.length)-(v10.toNat))) aW.length&&true)) (ob (strings_Join n ((aW.drop (0+(v10.toNat))).take ((aW.length)-(v10.toNat)),[])) fun y11 =>br (v7.1==0) (chk ((decide (0<=v10)&&decide (v10<=(aW.length:Int)))) (chk ((Nat.ble (v10.toNat) aW.length&&Nat.ble (((v10.toNat)+([[101]]:List (List UInt8)).length) * 16) room)) (let r12:List (List UInt8):=aW.take (v10.toNat)++[[101]]
 let v13:Int:=IntKind.wrap .i64 (uO+1)
 g0 (wK,yI,v13,r12,())))) (br (v7.1==1) (ob (oO n v7.2.1) fun y14 =>chk (Nat.ble y14.length room) (let v15:Int:=((bN y14).length:Int)
 fix (wJ n g0) n (v10,[91],wK,yI,uO,bN y14,v15,0,aW,()))) (br (v7.1==2) (chk ((decide (0<=v10)&&decide (v10<=(aW.length:Int)))) (chk ((Nat.ble (v10.toNat) aW.length&&Nat.ble (((v10.toNat)+([[94]]:List (List UInt8)).length) * 16) room)) (let r34:List (List UInt8):=aW.take (v10.toNat)++[[94]]
 let v35:Int:=IntKind.wrap .i64 (uO+1)
 g0 (wK,yI,v35,r34,())))) (br (v7.1==3) (chk ((decide (0<=v10)&&decide (v10<=(aW.length:Int)))) (chk ((Nat.ble (v10.toNat) aW.length&&Nat.ble (((v10.toNat)+([[36]]:List (List UInt8)).length) * 16) room)) (let r36:List (List UInt8):=aW.take (v10.toNat)++[[36]]
 let v37:Int:=IntKind.wrap .i64 (uO+1)
 g0 (wK,yI,v37,r36,())))) (br (v7.1==4) (chk (decide ([38].length+y11.length<=aL)) (chk ((decide (0<=v10)&&decide (v10<=(aW.length:Int)))) (chk ((Nat.ble (v10.toNat) aW.length&&Nat.ble (((v10.toNat)+([[38]++y11]:List (List UInt8)).length) * 16) room)) (let r38:List (List UInt8):=aW.take (v10.toNat)++[[38]++y11]
 let v39:Int:=IntKind.wrap .i64 (uO+1)
 g0 (wK,yI,v39,r38,()))))) (br (v7.1==5) (chk (decide ([124].length+y11.length<=aL)) (chk ((decide (0<=v10)&&decide (v10<=(aW.length:Int)))) (chk ((Nat.ble (v10.toNat) aW.length&&Nat.ble (((v10.toNat)+([[124]++y11]:List (List UInt8)).length) * 16) room)) (let r40:List (List UInt8):=aW.take (v10.toNat)++[[124]++y11]
 let v41:Int:=IntKind.wrap .i64 (uO+1)
 g0 (wK,yI,v41,r40,()))))) (br (v7.1==6) (ob (strconv_Itoa n v7.2.2.2.2.1) fun y42 =>chk (decide ([42].length+y42.length<=aL)) (chk (decide (([42]++y42).length+([44]:List UInt8).length<=aL)) (ob (strconv_Itoa n v7.2.2.2.2.2.1) fun y43 =>chk (decide ((([42]++y42)++[44]).length+y43.length<=aL)) (let v44:List UInt8:=(([42]++y42)++[44])++y43
 chk (decide (v44.length+([59]:List UInt8).length<=aL)) (chk (decide ((v44++[59]).length+y11.length<=aL)) (chk ((decide (0<=v10)&&decide (v10<=(aW.length:Int)))) (chk ((Nat.ble (v10.toNat) aW.length&&Nat.ble (((v10.toNat)+([(v44++[59])++y11]:List (List UInt8)).length) * 16) room)) (let r45:List (List UInt8):=aW.take (v10.toNat)++[(v44++[59])++y11]
 let v46:Int:=IntKind.wrap .i64 (uO+1)
 g0 (wK,yI,v46,r45,()))))))))) (br (v7.1==7) (chk (decide ([40].length+y11.length<=aL)) (chk (decide (([40]++y11).length+([41]:List UInt8).length<=aL)) (chk ((decide (0<=v10)&&decide (v10<=(aW.length:Int)))) (chk ((Nat.ble (v10.toNat) aW.length&&Nat.ble (((v10.toNat)+([([40]++y11)++[41]]:List (List UInt8)).length) * 16) room)) (let r47:List (List UInt8):=aW.take (v10.toNat)++[([40]++y11)++[41]]
 let v48:Int:=IntKind.wrap .i64 (uO+1)
 g0 (wK,yI,v48,r47,())))))) (br (v7.1==8) (ob (strconv_Itoa n v7.2.2.2.2.2.2.1) fun y49 =>chk (decide ([92].length+y49.length<=aL)) (chk ((decide (0<=v10)&&decide (v10<=(aW.length:Int)))) (chk ((Nat.ble (v10.toNat) aW.length&&Nat.ble (((v10.toNat)+([[92]++y49]:List (List UInt8)).length) * 16) room)) (let r50:List (List UInt8):=aW.take (v10.toNat)++[[92]++y49]
 let v51:Int:=IntKind.wrap .i64 (uO+1)
 g0 (wK,yI,v51,r50,()))))) (chk ((decide (0<=v10)&&decide (v10<=(aW.length:Int)))) (chk ((Nat.ble (v10.toNat) aW.length&&Nat.ble (((v10.toNat)+([[]]:List (List UInt8)).length) * 16) room)) (let r52:List (List UInt8):=aW.take (v10.toNat)++[[]]
 let v53:Int:=IntKind.wrap .i64 (uO+1)
 g0 (wK,yI,v53,r52,())))))))))))))))) (chk ((inB 0 (aW.length)&&decide (0+(aW.length)<=aW.length))) (chk (decide (0+(0:Int).toNat<aW.length)) (let v54:List UInt8:=aW.getD (0+(0:Int).toNat) (Ty.dflt .str)
 some v54)))
def sD (n:Nat) (x:List (NdT)):Option (List UInt8) :=let l_0:=x
 ob (yF n l_0) fun y1 =>br (!y1) (some []) (fix (gL n) n (l_0,(l_0.length:Int),0,[],()))
def qK (n:Nat) (x:List (NdT)):Option (Int) :=let l_0:=x
 ob (uN n l_0) fun y1 =>some y1.1
def mG (n:Nat) (g0:Int×Int×List (Bool)×List (Bool)×Unit->Option (List (Bool))) (x1:Int×Int×List (Bool)×List (Bool)×Unit):Option (List (Bool)) :=let b_2:=x1.1
 let i_3:=x1.2.1
 let b4:=x1.2.2.1
 let b5:=x1.2.2.2.1
 br (decide (i_3<=(IntKind.wrap .i64 b_2))) (chk (inB i_3 256) (chk (decide (i_3.toNat < 256)) (let v6:Int:=IntKind.wrap .i64 (i_3+1)
 g0 (b_2,v6,b4,b5.set (i_3.toNat) true,())))) (some b5)
def fP (n:Nat) (x:Int×Int):Option (List (Bool)) :=let a_0:=x.1
 let b_1:=x.2
 fix (mG n) n (b_1,IntKind.wrap .i64 a_0,(List.replicate 256 false),(List.replicate 256 false),())
def uP (n:Nat) (g0:Int×List (Bool)×List (Bool)×List (Bool)×Unit->Option (List (Bool))) (x1:Int×List (Bool)×List (Bool)×List (Bool)×Unit):Option (List (Bool)) :=let i_2:=x1.1
 let b3:=x1.2.1
 let b4:=x1.2.2.1
 let b5:=x1.2.2.2.1
 br (decide (i_2 < 256)) (chk (inB i_2 256) (chk (decide (i_2.toNat < 256)) (br (b3.getD (i_2.toNat) (Ty.dflt .bool)) (chk (inB i_2 256) (chk (decide (i_2.toNat < 256)) (let v6:Int:=IntKind.wrap .i64 (i_2+1)
 g0 (v6,b3.set (i_2.toNat) true,b4,b5,())))) (chk (inB i_2 256) (chk (decide (i_2.toNat < 256)) (chk (inB i_2 256) (chk (decide (i_2.toNat < 256)) (let v7:Int:=IntKind.wrap .i64 (i_2+1)
 g0 (v7,b3.set (i_2.toNat) (b4.getD (i_2.toNat) (Ty.dflt .bool)),b4,b5,()))))))))) (some b3)
def qX (n:Nat) (x:List (Bool)×List (Bool)):Option (List (Bool)) :=let a_0:=x.1
 let b_1:=x.2
 fix (uP n) n (0,a_0,b_1,(List.replicate 256 false),())
def uQ (n:Nat) (g0:List UInt8×Int×List (Bool)×List (Bool)×Unit->Option (List (Bool))) (x1:List UInt8×Int×List (Bool)×List (Bool)×Unit):Option (List (Bool)) :=let s_2:=x1.1
 let i_3:=x1.2.1
 let b4:=x1.2.2.1
 let b5:=x1.2.2.2.1
 br (decide (i_3<(s_2.length:Int))) (chk (inB i_3 s_2.length) (let v6:Int:=((bF 0 s_2 i_3).toNat:Int)
 chk (inB v6 256) (chk (decide (v6.toNat < 256)) (let v7:Int:=IntKind.wrap .i64 (i_3+1)
 g0 (s_2,v7,b4,b5.set (v6.toNat) true,()))))) (some b5)
def Es (n:Nat) (x:List UInt8):Option (List (Bool)) :=let s_0:=x
 fix (uQ n) n (s_0,0,(List.replicate 256 false),(List.replicate 256 false),())
def mH (n:Nat) (g0:Int×List (Bool)×List (Bool)×List (Bool)×Unit->Option (List (Bool)×Bool)) (x21:Int×List (Bool)×List (Bool)×List (Bool)×Unit):Option (List (Bool)×Bool) :=let wR:=x21.1
 let b23:=x21.2.1
 let b24:=x21.2.2.1
 let b25:=x21.2.2.2.1
 br (decide (wR < 256)) (chk (inB wR 256) (chk (decide (wR.toNat < 256)) (br (b25.getD (wR.toNat) (Ty.dflt .bool)) (chk (inB wR 256) (chk (decide (wR.toNat < 256)) (chk (inB wR 256) (chk (decide (wR.toNat < 256)) (let v26:Int:=IntKind.wrap .i64 (wR+1)
 g0 (v26,b23,b24,b25.set (wR.toNat) (!(b24.getD (wR.toNat) (Ty.dflt .bool))),())))))) (chk (inB wR 256) (chk (decide (wR.toNat < 256)) (let v27:Int:=IntKind.wrap .i64 (wR+1)
 g0 (v27,b23,b24,b25.set (wR.toNat) false,()))))))) (some (b25,true))
def Ua (n:Nat) (x:List UInt8):Option (List (Bool)×Bool) :=let gK:=x
 ob (fP n (65,90)) fun y1 =>ob (fP n (97,122)) fun y2 =>ob (fP n (48,57)) fun y3 =>ob (qX n (y1,y2)) fun y4 =>ob (qX n (y4,y3)) fun y5 =>br (gK==[117,112,112,101,114]) (some (y1,true)) (br (gK==[108,111,119,101,114]) (some (y2,true)) (br (gK==[97,108,112,104,97]) (ob (qX n (y1,y2)) fun y6 =>some (y6,true)) (br (gK==[100,105,103,105,116]) (some (y3,true)) (br (gK==[97,108,110,117,109]) (some (y5,true)) (br (gK==[120,100,105,103,105,116]) (ob (fP n (65,70)) fun y7 =>ob (fP n (97,102)) fun y8 =>ob (qX n (y7,y8)) fun y9 =>ob (qX n (y3,y9)) fun y10 =>some (y10,true)) (br (gK==[98,108,97,110,107]) (ob (Es n [9,32]) fun y11 =>some (y11,true)) (br (gK==[115,112,97,99,101]) (ob (fP n (9,13)) fun y12 =>ob (Es n [32]) fun y13 =>ob (qX n (y12,y13)) fun y14 =>some (y14,true)) (br (gK==[99,110,116,114,108]) (ob (fP n (0,31)) fun y15 =>ob (fP n (127,127)) fun y16 =>ob (qX n (y15,y16)) fun y17 =>some (y17,true)) (br (gK==[103,114,97,112,104]) (ob (fP n (33,126)) fun y18 =>some (y18,true)) (br (gK==[112,114,105,110,116]) (ob (fP n (32,126)) fun y19 =>some (y19,true)) (br (gK==[112,117,110,99,116]) (ob (fP n (33,126)) fun y20 =>fix (mH n) n (0,(List.replicate 256 false),y5,y20,())) (some ((List.replicate 256 false),false)))))))))))))
end Go.Dec
