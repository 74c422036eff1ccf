import Derived.Test.YtfbilefiaminnaaGreatDoorPtrtAF
open Go.IntKind renaming wrap->qEq
open Nat renaming ble->qBg
open List renaming replicate->qAf
namespace Go.Dec
set_option linter.unusedVariables false
abbrev aT:Ty:=.pair (.int .i64) (.pair (.arr 4 (.int .u64)) (.pair (.int .i64) (.pair (.int .i64) (.pair (.int .i64) (.pair (.int .i64) (.pair (.int .i64) .unit))))))
abbrev iL:Ty:=.pair .str (.pair (.int .i64) .unit)
abbrev yPd:Ty:=.pair (.int .i64) (.pair (.int .i64) .unit)
abbrev yP:Ty:=.pair .str (.pair (.int .i64) (.pair (.slice aT) (.pair (.int .i64) (.pair (.arr 10 .bool) .unit))))
abbrev NdT:Type:=Int × List (Int) × Int × Int × Int × Int × Int × Unit
abbrev jR:Type:=List UInt8 × Int × Int × List (Bool) × List (NdT) × Unit
abbrev yQ:Type:=Sum (Int × jR) (Int × Int × jR)
def iC (n:Nat) (x:List UInt8×List UInt8):Option (Bool) :=let s_0:=x.1
 let uX:=x.2
 br (decide ((s_0.length:Int)≥(uX.length:Int))) (chk ((decide (0<=(uX.length:Int))&&decide ((uX.length:Int)<=(s_0.length:Int)))) (let v1:List UInt8:=s_0.take (uX.length:Int).toNat
 some (v1==uX))) (some false)
def strings_HasPrefix (n:Nat) (x:List UInt8×List UInt8):Option (Bool) :=let s_0:=x.1
 let uX:=x.2
 ob (iC n (s_0,uX)) fun y1 =>some y1
def bL (n:Nat) (x:List UInt8×jR):Option (Bool×jR) :=let t_1:=x.1
 let s2:=x.2.1
 let at3:=x.2.2.1
 let gP:=x.2.2.2.1
 let gQ:=x.2.2.2.2.1
 let bM:=x.2.2.2.2.2.1
 chk ((decide (0<=at3)&&decide (at3<=(s2.length:Int)))) (ob (strings_HasPrefix n (s2.drop at3.toNat,t_1)) fun y7 =>some (y7,s2,at3,gP,gQ,bM,()))
def dQ (n:Nat) (x:List UInt8×jR):Option (Bool×jR) :=let t_1:=x.1
 let s2:=x.2.1
 let at3:=x.2.2.1
 let gP:=x.2.2.2.1
 let gQ:=x.2.2.2.2.1
 let bM:=x.2.2.2.2.2.1
 ob (bL n (t_1,s2,at3,gP,gQ,bM,())) fun y7 =>br (!y7.1) (some (false,y7.2.1,y7.2.2.1,y7.2.2.2.1,y7.2.2.2.2.1,y7.2.2.2.2.2.1,())) (let v8:Int:=qEq .i64 (y7.2.2.1+(t_1.length:Int))
 some (true,y7.2.1,v8,y7.2.2.2.1,y7.2.2.2.2.1,y7.2.2.2.2.2.1,()))
def dJ (n:Nat) (x:Int×List (Int)×Int×Int×Int×Int×Int×jR):Option (Int×jR) :=let n_1:=x.1
 let n_2:=x.2.1
 let n_3:=x.2.2.1
 let n_4:=x.2.2.2.1
 let n_5:=x.2.2.2.2.1
 let n_6:=x.2.2.2.2.2.1
 let n_7:=x.2.2.2.2.2.2.1
 let s8:=x.2.2.2.2.2.2.2.1
 let at9:=x.2.2.2.2.2.2.2.2.1
 let zY:=x.2.2.2.2.2.2.2.2.2.1
 let zZ:=x.2.2.2.2.2.2.2.2.2.2.1
 let zN:=x.2.2.2.2.2.2.2.2.2.2.2.1
 chk (qBg ((zN.length+([(n_1,(n_2,(n_3,(n_4,(n_5,(n_6,(n_7,())))))))]:List (NdT)).length) * 80) room) (let r13:List (NdT):=zN++[(n_1,(n_2,(n_3,(n_4,(n_5,(n_6,(n_7,())))))))]
 let v14:Int:=((r13.length:Nat):Int)
 let v15:Int:=qEq .i64 (v14 - 1)
 some (v15,s8,at9,zY,zZ,r13,()))
def uL (n:Nat) (x:jR):Option (Bool×jR) :=let s1:=x.1
 let at2:=x.2.1
 let zEs:=x.2.2.1
 let zEt:=x.2.2.2.1
 let Dj:=x.2.2.2.2.1
 br (at2==(s1.length:Int)) (some (true,s1,at2,zEs,zEt,Dj,())) (ob (bL n ([92,41],s1,at2,zEs,zEt,Dj,())) fun y6 =>some (y6.1,y6.2.1,y6.2.2.1,y6.2.2.2.1,y6.2.2.2.2.1,y6.2.2.2.2.2.1,()))
def yBx (n:Nat) (g0:Int×List (Int)×List (Int)×Unit->Option (List (Int))) (x1:Int×List (Int)×List (Int)×Unit):Option (List (Int)) :=let zLg:=x1.1
 let b3:=x1.2.1
 let b4:=x1.2.2.1
 br (decide (zLg < 4)) (chk (inB zLg 4) (chk (decide (zLg.toNat < 4)) (let v5:Int:=b3.getD (zLg.toNat) (Ty.dflt (.int .u64))
 let v6:Int:=gJ .u64 .xor 18446744073709551615 v5
 chk (inB zLg 4) (chk (decide (zLg.toNat < 4)) (let v7:Int:=qEq .i64 (zLg+1)
 g0 (v7,b3.set (zLg.toNat) v6,b4,())))))) (some b3)
def Xv (n:Nat) (x:List (Int)):Option (List (Int)) :=let s_0:=x
 fix (yBx n) n (0,s_0,[0,0,0,0],())
def dZ (n:Nat) (x:List (Int)×jR):Option (Int×jR) :=let s_1:=x.1
 let s2:=x.2.1
 let at3:=x.2.2.1
 let gP:=x.2.2.2.1
 let gQ:=x.2.2.2.2.1
 let bM:=x.2.2.2.2.2.1
 ob (dJ n (1,s_1,0,0,0,0,0,s2,at3,gP,gQ,bM,())) fun y7 =>some (y7.1,y7.2.1,y7.2.2.1,y7.2.2.2.1,y7.2.2.2.2.1,y7.2.2.2.2.2.1,())
def gH (n:Nat) (x:List UInt8×List UInt8×Int×Unit):Option (Bool×List UInt8×Int×Unit) :=let t_1:=x.1
 let s2:=x.2.1
 let at3:=x.2.2.1
 chk ((decide (0<=at3)&&decide (at3<=(s2.length:Int)))) (ob (strings_HasPrefix n (s2.drop at3.toNat,t_1)) fun y4 =>some (y4,s2,at3,()))
def fO (n:Nat) (x:List UInt8×List UInt8×Int×Unit):Option (Bool×List UInt8×Int×Unit) :=let t_1:=x.1
 let s2:=x.2.1
 let at3:=x.2.2.1
 ob (gH n (t_1,s2,at3,())) fun y4 =>br (!y4.1) (some (false,y4.2.1,y4.2.2.1,())) (let v5:Int:=qEq .i64 (y4.2.2.1+(t_1.length:Int))
 some (true,y4.2.1,v5,()))
def bY (_n:Nat) (x:List UInt8×Int×Unit):Option (Sum (List UInt8×Int×Unit) (Int×Int×List UInt8×Int×Unit)):=some (.inr (42,0,x))
def xV (n:Nat) (g0:Int×Int×List (Int)×Unit->Option (List (Int))) (x1:Int×Int×List (Int)×Unit):Option (List (Int)) :=let b_2:=x1.1
 let i_3:=x1.2.1
 let b4:=x1.2.2.1
 br (decide (i_3<=(qEq .i64 b_2))) (chk (decide (0<=6)) (chk (inB (Di .i64 i_3 6) 4) (chk (decide ((Di .i64 i_3 6).toNat < 4)) (let v5:Int:=b4.getD ((Di .i64 i_3 6).toNat) (Ty.dflt (.int .u64))
 chk (decide (0<=gJ .i64 .and i_3 63)) (let v6:Int:=zKf .u64 1 (gJ .i64 .and i_3 63)
 chk (inB (Di .i64 i_3 6) 4) (chk (decide ((Di .i64 i_3 6).toNat < 4)) (let v7:Int:=qEq .i64 (i_3+1)
 g0 (b_2,v7,b4.set ((Di .i64 i_3 6).toNat) (gJ .u64 .or v5 v6),())))))))) (some b4)
def dW (n:Nat) (x:Int×Int):Option (List (Int)) :=let a_0:=x.1
 let b_1:=x.2
 fix (xV n) n (b_1,qEq .i64 a_0,[0,0,0,0],())
def zLh (n:Nat) (g0:List (List (Int))×Int×Int×List (Int)×Unit->Option (List (Int))) (g1:List (List (Int))×Int×Int×Int×List (Int)×List (Int)×Unit->Option (List (Int))) (x7:List (List (Int))×Int×Int×Int×List (Int)×List (Int)×Unit):Option (List (Int)) :=let xFl:=x7.1
 let xFm:=x7.2.1
 let xAt:=x7.2.2.1
 let Fg:=x7.2.2.2.1
 let b12:=x7.2.2.2.2.1
 let b13:=x7.2.2.2.2.2.1
 br (decide (Fg < 4)) (chk (inB Fg 4) (chk (decide (Fg.toNat < 4)) (let v14:Int:=b12.getD (Fg.toNat) (Ty.dflt (.int .u64))
 chk (inB Fg 4) (chk (decide (Fg.toNat < 4)) (let v15:Int:=b13.getD (Fg.toNat) (Ty.dflt (.int .u64))
 chk (inB Fg 4) (chk (decide (Fg.toNat < 4)) (let v16:Int:=qEq .i64 (Fg+1)
 g1 (xFl,xFm,xAt,v16,b12.set (Fg.toNat) (gJ .u64 .or v14 v15),b13,())))))))) (let v17:Int:=qEq .i64 (xAt+1)
 g0 (xFl,xFm,v17,b12,()))
def Nk (n:Nat) (g0:List (List (Int))×Int×Int×List (Int)×Unit->Option (List (Int))) (x1:List (List (Int))×Int×Int×List (Int)×Unit):Option (List (Int)) :=let yXo:=x1.1
 let xFn:=x1.2.1
 let yPe:=x1.2.2.1
 let b5:=x1.2.2.2.1
 br (decide (yPe<xFn)) (chk (inB yPe yXo.length) (let v6:List (Int):=aM (Ty.dflt (.arr 4 (.int .u64))) yXo yPe
 fix (zLh n g0) n (yXo,xFn,yPe,0,b5,v6,()))) (some b5)
def vV (n:Nat) (x:List (List (Int))):Option (List (Int)) :=let l_0:=x
 fix (Nk n) n (l_0,(l_0.length:Int),0,[0,0,0,0],())
def Nl (n:Nat) (g0:List UInt8×Int×Int×List (Int)×Unit->Option (List (Int))) (x1:List UInt8×Int×Int×List (Int)×Unit):Option (List (Int)) :=let s_2:=x1.1
 let zYi:=x1.2.1
 let Bc:=x1.2.2.1
 let b5:=x1.2.2.2.1
 br (decide (Bc<zYi)) (chk (inB Bc s_2.length) (let v6:Int:=((aM 0 s_2 Bc).toNat:Int)
 chk (decide (0<=6)) (chk (inB (Di .u8 v6 6) 4) (chk (decide ((Di .u8 v6 6).toNat < 4)) (let v7:Int:=b5.getD ((Di .u8 v6 6).toNat) (Ty.dflt (.int .u64))
 chk (inB Bc s_2.length) (let v8:Int:=((aM 0 s_2 Bc).toNat:Int)
 chk (decide (0<=gJ .u8 .and v8 63)) (let v9:Int:=zKf .u64 1 (gJ .u8 .and v8 63)
 chk (inB (Di .u8 v6 6) 4) (chk (decide ((Di .u8 v6 6).toNat < 4)) (let v10:Int:=qEq .i64 (Bc+1)
 g0 (s_2,zYi,v10,b5.set ((Di .u8 v6 6).toNat) (gJ .u64 .or v7 v9),())))))))))) (some b5)
def xW (n:Nat) (x:List UInt8):Option (List (Int)) :=let s_0:=x
 fix (Nl n) n (s_0,(s_0.length:Int),0,[0,0,0,0],())
def Tc (n:Nat) (x:List UInt8):Option (List (Int)×Bool) :=let jY:=x
 ob (dW n (65,90)) fun y1 =>ob (dW n (97,122)) fun y2 =>ob (dW n (48,57)) fun y3 =>br (jY==[117,112,112,101,114]) (some (y1,true)) (br (jY==[108,111,119,101,114]) (some (y2,true)) (br (jY==[97,108,112,104,97]) (ob (vV n [y1,y2]) fun y4 =>some (y4,true)) (br (jY==[100,105,103,105,116]) (some (y3,true)) (br (jY==[97,108,110,117,109]) (ob (vV n [y1,y2,y3]) fun y5 =>some (y5,true)) (br (jY==[120,100,105,103,105,116]) (ob (dW n (65,70)) fun y6 =>ob (dW n (97,102)) fun y7 =>ob (vV n [y3,y6,y7]) fun y8 =>some (y8,true)) (br (jY==[98,108,97,110,107]) (ob (xW n [32,9]) fun y9 =>some (y9,true)) (br (jY==[115,112,97,99,101]) (ob (xW n [32,9,10,11,12,13]) fun y10 =>some (y10,true)) (br (jY==[99,110,116,114,108]) (ob (dW n (0,31)) fun y11 =>ob (xW n [127]) fun y12 =>ob (vV n [y11,y12]) fun y13 =>some (y13,true)) (br (jY==[103,114,97,112,104]) (ob (dW n (33,126)) fun y14 =>some (y14,true)) (br (jY==[112,114,105,110,116]) (ob (dW n (32,126)) fun y15 =>some (y15,true)) (br (jY==[112,117,110,99,116]) (ob (dW n (33,47)) fun y16 =>ob (dW n (58,64)) fun y17 =>ob (dW n (91,96)) fun y18 =>ob (dW n (123,126)) fun y19 =>ob (vV n [y16,y17,y18,y19]) fun y20 =>some (y20,true)) (some ([0,0,0,0],false)))))))))))))
def yR (n:Nat) (x21:List UInt8×List UInt8×Int×Unit):Option (Sum (Int×Bool×List UInt8×Int×Unit) (Int×Int×List UInt8×Int×Unit)) :=let xCn:=x21.1
 let s23:=x21.2.1
 let yXp:=x21.2.2.1
 chk (inB yXp s23.length) (let v25:Int:=((aM 0 s23 yXp).toNat:Int)
 let v26:Int:=qEq .i64 (yXp+3)
 some (.inl (v25,(xCn==[46]),s23,v26,())))
def nL (n:Nat) (x41:List UInt8×Int×Unit):Option (Sum (Int×Bool×List UInt8×Int×Unit) (Int×Int×List UInt8×Int×Unit)) :=let s42:=x41.1
 let xKx:=x41.2.1
 let v44:Int:=qEq .i64 (xKx+1)
 let v45:Int:=qEq .i64 (v44 - 1)
 chk (inB v45 s42.length) (let v46:Int:=((aM 0 s42 v45).toNat:Int)
 some (.inl (v46,true,s42,v44,())))
def kD (n:Nat) (x30:Bool×Bool×List UInt8×Int×Unit):Option (Sum (Int×Bool×List UInt8×Int×Unit) (Int×Int×List UInt8×Int×Unit)) :=let yXq:=x30.1
 let yLk:=x30.2.1
 let s33:=x30.2.2.1
 let yFi:=x30.2.2.2.1
 br (yFi==(s33.length:Int)) (ob2 (bY n (s33,yFi,())) (fun y35 =>none) (fun y35 =>some (.inr (y35.1,y35.2.1,y35.2.2.1,y35.2.2.2.1,())))) (ob (gH n ([91,58],s33,yFi,())) fun y36 =>br y36.1 (ob2 (bY n (y36.2.1,y36.2.2.1,())) (fun y37 =>none) (fun y37 =>some (.inr (y37.1,y37.2.1,y37.2.2.1,y37.2.2.2.1,())))) (ob (gH n ([93],y36.2.1,y36.2.2.1,())) fun y38 =>br y38.1 (br (!yXq) (ob2 (bY n (y38.2.1,y38.2.2.1,())) (fun y39 =>none) (fun y39 =>some (.inr (y39.1,y39.2.1,y39.2.2.1,y39.2.2.2.1,())))) (br yLk (ob2 (bY n (y38.2.1,y38.2.2.1,())) (fun y40 =>none) (fun y40 =>some (.inr (y40.1,y40.2.1,y40.2.2.1,y40.2.2.2.1,())))) (jn (nL n) (y38.2.1,y38.2.2.1,())))) (br yLk (ob2 (bY n (y38.2.1,y38.2.2.1,())) (fun y47 =>none) (fun y47 =>some (.inr (y47.1,y47.2.1,y47.2.2.1,y47.2.2.2.1,())))) (jn (nL n) (y38.2.1,y38.2.2.1,())))))
def rZ (n:Nat) (g0:Bool×Bool×Int×Int×List UInt8×Int×List (List UInt8)×Unit->Option (Sum (Int×Bool×List UInt8×Int×Unit) (Int×Int×List UInt8×Int×Unit))) (x6:Bool×Bool×Int×Int×List UInt8×Int×List (List UInt8)×Unit):Option (Sum (Int×Bool×List UInt8×Int×Unit) (Int×Int×List UInt8×Int×Unit)) :=let Xw:=x6.1
 let yTi:=x6.2.1
 let xAu:=x6.2.2.1
 let zLi:=x6.2.2.2.1
 let s11:=x6.2.2.2.2.1
 let yFj:=x6.2.2.2.2.2.1
 let zCb:=x6.2.2.2.2.2.2.1
 br (decide (zLi<xAu)) (chk ((inB zLi (zCb.length)&&decide (0+(zCb.length)<=zCb.length))) (chk (decide (0+zLi.toNat<zCb.length)) (let v14:List UInt8:=zCb.getD (0+zLi.toNat) (Ty.dflt .str)
 chk (decide ([91].length+v14.length<=qV)) (ob (fO n ([91]++v14,s11,yFj,())) fun y15 =>br (!y15.1) (let v16:Int:=qEq .i64 (zLi+1)
 g0 (Xw,yTi,xAu,v16,y15.2.1,y15.2.2.1,zCb,())) (br ((y15.2.1.length:Int)==y15.2.2.1) (ob2 (bY n (y15.2.1,y15.2.2.1,())) (fun y17 =>none) (fun y17 =>some (.inr (y17.1,y17.2.1,y17.2.2.1,y17.2.2.2.1,())))) (let v18:Int:=qEq .i64 (y15.2.2.1+1)
 chk ((decide (0<=v18)&&decide (v18<=(y15.2.1.length:Int)))) (chk (decide (v14.length+([93]:List UInt8).length<=qV)) (ob (strings_HasPrefix n (y15.2.1.drop v18.toNat,v14++[93])) fun y19 =>br (!y19) (ob2 (bY n (y15.2.1,y15.2.2.1,())) (fun y20 =>none) (fun y20 =>some (.inr (y20.1,y20.2.1,y20.2.2.1,y20.2.2.2.1,())))) (jn (yR n) (v14,y15.2.1,y15.2.2.1,())))))))))) (ob (fO n ([92,110],s11,yFj,())) fun y27 =>br y27.1 (some (.inl (10,true,y27.2.1,y27.2.2.1,()))) (ob (gH n ([45],y27.2.1,y27.2.2.1,())) fun y28 =>br y28.1 (br (!Xw) (br (!yTi) (ob (gH n ([45,93],y28.2.1,y28.2.2.1,())) fun y29 =>jn (kD n) (Xw,(!y29.1),y29.2.1,y29.2.2.1,())) (jn (kD n) (Xw,false,y28.2.1,y28.2.2.1,()))) (jn (kD n) (Xw,false,y28.2.1,y28.2.2.1,()))) (jn (kD n) (Xw,false,y28.2.1,y28.2.2.1,()))))
def rP (n:Nat) (x:Bool×Bool×List UInt8×Int×Unit):Option (Sum (Int×Bool×List UInt8×Int×Unit) (Int×Int×List UInt8×Int×Unit)) :=let Lv:=x.1
 let yFk:=x.2.1
 let s3:=x.2.2.1
 let at4:=x.2.2.2.1
 let v5:Int:=(([[46],[61]].length:Nat):Int)
 fix (rZ n) n (Lv,yFk,v5,0,s3,at4,[[46],[61]],())
def tY (n:Nat) (x:Bool×List UInt8×Int×Unit):Option (Sum (List (Int)×List UInt8×Int×Unit) (Int×Int×List UInt8×Int×Unit)) :=let Lv:=x.1
 let s2:=x.2.1
 let at3:=x.2.2.1
 ob (fO n ([91,58],s2,at3,())) fun y4 =>br y4.1 (chk ((decide (0<=y4.2.2.1)&&decide (y4.2.2.1<=(y4.2.1.length:Int)))) (let v5:List UInt8:=y4.2.1.drop y4.2.2.1.toNat
 ob (strings_Cut n (v5,[58,93])) fun y6 =>let v7:Int:=qEq .i64 (y4.2.2.1+(y6.1.length:Int))
 ob (Tc n y6.1) fun y8 =>br (!y8.2) (ob2 (bY n (y4.2.1,v7,())) (fun y9 =>none) (fun y9 =>some (.inr (y9.1,y9.2.1,y9.2.2.1,y9.2.2.2.1,())))) (ob (fO n ([58,93],y4.2.1,v7,())) fun y10 =>br (!y10.1) (ob2 (bY n (y10.2.1,y10.2.2.1,())) (fun y11 =>none) (fun y11 =>some (.inr (y11.1,y11.2.1,y11.2.2.1,y11.2.2.2.1,())))) (some (.inl (y8.1,y10.2.1,y10.2.2.1,())))))) (ob2 (rP n (Lv,false,y4.2.1,y4.2.2.1,())) (fun y12 =>ob (gH n ([45],y12.2.2.1,y12.2.2.2.1,())) fun y13 =>br (!y13.1) (ob (dW n (y12.1,y12.1)) fun y14 =>some (.inl (y14,y13.2.1,y13.2.2.1,()))) (ob (gH n ([45,93],y13.2.1,y13.2.2.1,())) fun y15 =>br y15.1 (ob (dW n (y12.1,y12.1)) fun y16 =>some (.inl (y16,y15.2.1,y15.2.2.1,()))) (let v17:Int:=qEq .i64 (y15.2.2.1+1)
 br (v17==(y15.2.1.length:Int)) (ob (dW n (y12.1,y12.1)) fun y18 =>some (.inl (y18,y15.2.1,y15.2.2.1,()))) (let v19:Int:=qEq .i64 (y15.2.2.1+1)
 ob2 (rP n (false,true,y15.2.1,v19,())) (fun y20 =>br (!y12.2.1) (ob2 (bY n (y20.2.2.1,y20.2.2.2.1,())) (fun y21 =>none) (fun y21 =>some (.inr (y21.1,y21.2.1,y21.2.2.1,y21.2.2.2.1,())))) (br (!y20.2.1) (ob2 (bY n (y20.2.2.1,y20.2.2.2.1,())) (fun y22 =>none) (fun y22 =>some (.inr (y22.1,y22.2.1,y22.2.2.1,y22.2.2.2.1,())))) (br (decide (y20.1<y12.1)) (ob2 (bY n (y20.2.2.1,y20.2.2.2.1,())) (fun y23 =>none) (fun y23 =>some (.inr (y23.1,y23.2.1,y23.2.2.1,y23.2.2.2.1,())))) (ob (dW n (y12.1,y20.1)) fun y24 =>some (.inl (y24,y20.2.2.1,y20.2.2.2.1,())))))) (fun y20 =>some (.inr (y20.1,y20.2.1,y20.2.2.1,y20.2.2.2.1,()))))))) (fun y12 =>some (.inr (y12.1,y12.2.1,y12.2.2.1,y12.2.2.2.1,()))))
def qX (n:Nat) (g0:Bool×Bool×List (Int)×List UInt8×Int×Unit->Option (Sum (List (Int)×List UInt8×Int×Unit) (Int×Int×List (Int)×List UInt8×Int×Unit))) (x7:Bool×Bool×List (Int)×List UInt8×Int×Unit):Option (Sum (List (Int)×List UInt8×Int×Unit) (Int×Int×List (Int)×List UInt8×Int×Unit)) :=let yPf:=x7.1
 let zYj:=x7.2.1
 let b10:=x7.2.2.1
 let s11:=x7.2.2.2.1
 let yFj:=x7.2.2.2.2.1
 br zYj (ob2 (tY n (zYj,s11,yFj,())) (fun y13 =>ob (vV n [b10,y13.1]) fun y14 =>g0 (yPf,false,y14,y13.2.1,y13.2.2.1,())) (fun y13 =>some (.inr (y13.1,y13.2.1,b10,y13.2.2.1,y13.2.2.2.1,())))) (ob (fO n ([93],s11,yFj,())) fun y15 =>br (!y15.1) (ob2 (tY n (zYj,y15.2.1,y15.2.2.1,())) (fun y16 =>ob (vV n [b10,y16.1]) fun y17 =>g0 (yPf,false,y17,y16.2.1,y16.2.2.1,())) (fun y16 =>some (.inr (y16.1,y16.2.1,b10,y16.2.2.1,y16.2.2.2.1,())))) (br yPf (ob (Xv n b10) fun y18 =>br (Ty.beq (.arr 4 (.int .u64)) y18 ([0,0,0,0])) (ob2 (bY n (y15.2.1,y15.2.2.1,())) (fun y19 =>none) (fun y19 =>some (.inr (y19.1,y19.2.1,y18,y19.2.2.1,y19.2.2.2.1,())))) (some (.inl (y18,y15.2.1,y15.2.2.1,())))) (br (Ty.beq (.arr 4 (.int .u64)) b10 ([0,0,0,0])) (ob2 (bY n (y15.2.1,y15.2.2.1,())) (fun y20 =>none) (fun y20 =>some (.inr (y20.1,y20.2.1,b10,y20.2.2.1,y20.2.2.2.1,())))) (some (.inl (b10,y15.2.1,y15.2.2.1,()))))))
def qK (n:Nat) (x:List (Int)×List UInt8×Int×Unit):Option (Sum (List (Int)×List UInt8×Int×Unit) (Int×Int×List (Int)×List UInt8×Int×Unit)) :=let b1:=x.1
 let s2:=x.2.1
 let at3:=x.2.2.1
 ob (fO n ([91],s2,at3,())) fun y4 =>br (!y4.1) (ob2 (bY n (y4.2.1,y4.2.2.1,())) (fun y5 =>none) (fun y5 =>some (.inr (y5.1,y5.2.1,b1,y5.2.2.1,y5.2.2.2.1,())))) (ob (fO n ([94],y4.2.1,y4.2.2.1,())) fun y6 =>fix (qX n) n (y6.1,true,b1,y6.2.1,y6.2.2.1,()))
def iQ (n:Nat) (x:List (Int)×List UInt8×Int×Unit):Option (Int×Int×List (Int)×List UInt8×Int×Unit):=ob2 (qK n x) (fun y=>some (0,0,y)) (fun y=>some y)
def yS (n:Nat) (x:List UInt8):Option (List (Int)×Int×Int) :=let s_0:=x
 ob (iQ n ([0,0,0,0],s_0,0,())) fun y1 =>br (y1.1 != 0) (some ([0,0,0,0],0,y1.1)) (some (y1.2.2.1,y1.2.2.2.2.1,0))
def aR (_n:Nat) (x:Int×Int×jR):Option (Sum (jR) (Int×Int×jR)):=some (.inr x)
def qQ (n:Nat) (g0:Int×jR->Option (Int×jR)) (x6:Int×jR):Option (Int×jR) :=let i_7:=x6.1
 let s8:=x6.2.1
 let at9:=x6.2.2.1
 let zY:=x6.2.2.2.1
 let zZ:=x6.2.2.2.2.1
 let zN:=x6.2.2.2.2.2.1
 br (decide (i_7<(s8.length:Int))) (let v13:Int:=qEq .i64 (at9+3)
 br (decide (i_7<v13)) (chk (inB i_7 s8.length) (let v14:Int:=((aM 0 s8 i_7).toNat:Int)
 br (decide (v14≥48)) (chk (inB i_7 s8.length) (let v15:Int:=((aM 0 s8 i_7).toNat:Int)
 br (decide (v15<=57)) (let v16:Int:=qEq .i64 (i_7+1)
 g0 (v16,s8,at9,zY,zZ,zN,())) (chk ((decide (0<=i_7)&&decide (i_7<=(s8.length:Int))&&(decide (0<=at9)&&decide (at9<=i_7)))) (let v17:List UInt8:=(s8.take i_7.toNat).drop at9.toNat
 ob (strconv_Atoi n v17) fun y18 =>br (!(!y18.2)) (some ((-1),s8,i_7,zY,zZ,zN,())) (some (y18.1,s8,i_7,zY,zZ,zN,())))))) (chk ((decide (0<=i_7)&&decide (i_7<=(s8.length:Int))&&(decide (0<=at9)&&decide (at9<=i_7)))) (let v19:List UInt8:=(s8.take i_7.toNat).drop at9.toNat
 ob (strconv_Atoi n v19) fun y20 =>br (!(!y20.2)) (some ((-1),s8,i_7,zY,zZ,zN,())) (some (y20.1,s8,i_7,zY,zZ,zN,())))))) (chk ((decide (0<=i_7)&&decide (i_7<=(s8.length:Int))&&(decide (0<=at9)&&decide (at9<=i_7)))) (let v21:List UInt8:=(s8.take i_7.toNat).drop at9.toNat
 ob (strconv_Atoi n v21) fun y22 =>br (!(!y22.2)) (some ((-1),s8,i_7,zY,zZ,zN,())) (some (y22.1,s8,i_7,zY,zZ,zN,()))))) (chk ((decide (0<=i_7)&&decide (i_7<=(s8.length:Int))&&(decide (0<=at9)&&decide (at9<=i_7)))) (let v23:List UInt8:=(s8.take i_7.toNat).drop at9.toNat
 ob (strconv_Atoi n v23) fun y24 =>br (!(!y24.2)) (some ((-1),s8,i_7,zY,zZ,zN,())) (some (y24.1,s8,i_7,zY,zZ,zN,()))))
def qG (n:Nat) (x:jR):Option (Int×jR) :=let s1:=x.1
 let at2:=x.2.1
 let zEs:=x.2.2.1
 let zEt:=x.2.2.2.1
 let Dj:=x.2.2.2.2.1
 fix (qQ n) n (at2,s1,at2,zEs,zEt,Dj,())
def vX(n:Nat)(x:Int × jR):Option yQ :=
 let zOf:Int:=x.1
 let s2:List UInt8:=x.2.1
 let at3:Int:=x.2.2.1
 let gP:Int:=x.2.2.2.1
 let gQ:List (Bool):=x.2.2.2.2.1
 let bM:List (NdT):=x.2.2.2.2.2.1
 ob (dQ n ([42],s2,at3,gP,gQ,bM,())) λy7 =>
 br y7.1 (
  ob (dJ n (6,[0,0,0,0],zOf,0,0,(-1),0,y7.2.1,y7.2.2.1,y7.2.2.2.1,y7.2.2.2.2.1,y7.2.2.2.2.2.1,())) λy8 =>
  ob (bL n ([42],y8.2.1,y8.2.2.1,y8.2.2.2.1,y8.2.2.2.2.1,y8.2.2.2.2.2.1,())) λy9 =>
  br y9.1 (
   ob2 (aR n (43,y9.2.2.1,y9.2.1,y9.2.2.1,y9.2.2.2.1,y9.2.2.2.2.1,y9.2.2.2.2.2.1,())) (λy10 =>
    none) (λy10 =>
    some (.inr (y10.1,y10.2.1,y10.2.2.1,y10.2.2.2.1,y10.2.2.2.2.1,y10.2.2.2.2.2.1,y10.2.2.2.2.2.2.1,())))) (
   ob (bL n ([92,123],y9.2.1,y9.2.2.1,y9.2.2.2.1,y9.2.2.2.2.1,y9.2.2.2.2.2.1,())) λy11 =>
   br y11.1 (
    ob2 (aR n (43,y11.2.2.1,y11.2.1,y11.2.2.1,y11.2.2.2.1,y11.2.2.2.2.1,y11.2.2.2.2.2.1,())) (λy12 =>
     none) (λy12 =>
     some (.inr (y12.1,y12.2.1,y12.2.2.1,y12.2.2.2.1,y12.2.2.2.2.1,y12.2.2.2.2.2.1,y12.2.2.2.2.2.2.1,())))) (
    some (.inl (y8.1,y11.2.1,y11.2.2.1,y11.2.2.2.1,y11.2.2.2.2.1,y11.2.2.2.2.2.1,()))))) (
  ob (dQ n ([92,123],y7.2.1,y7.2.2.1,y7.2.2.2.1,y7.2.2.2.2.1,y7.2.2.2.2.2.1,())) λy13 =>
  br (!y13.1) (
   some (.inl (zOf,y13.2.1,y13.2.2.1,y13.2.2.2.1,y13.2.2.2.2.1,y13.2.2.2.2.2.1,()))) (
   ob (qG n (y13.2.1,y13.2.2.1,y13.2.2.2.1,y13.2.2.2.2.1,y13.2.2.2.2.2.1,())) λy14 =>
   ob (dQ n ([44],y14.2.1,y14.2.2.1,y14.2.2.2.1,y14.2.2.2.2.1,y14.2.2.2.2.2.1,())) λy15 =>
   br y15.1 (
    ob (qG n (y15.2.1,y15.2.2.1,y15.2.2.2.1,y15.2.2.2.2.1,y15.2.2.2.2.2.1,())) λy16 =>
    br (y14.1==(-1)) (
     ob2 (aR n (43,at3,y16.2.1,y16.2.2.1,y16.2.2.2.1,y16.2.2.2.2.1,y16.2.2.2.2.2.1,())) (λy17 =>
      none) (λy17 =>
      some (.inr (y17.1,y17.2.1,y17.2.2.1,y17.2.2.2.1,y17.2.2.2.2.1,y17.2.2.2.2.2.1,y17.2.2.2.2.2.2.1,())))) (
     ob (dQ n ([92,125],y16.2.1,y16.2.2.1,y16.2.2.2.1,y16.2.2.2.2.1,y16.2.2.2.2.2.1,())) λy18 =>
     br (!y18.1) (
      ob2 (aR n (43,at3,y18.2.1,y18.2.2.1,y18.2.2.2.1,y18.2.2.2.2.1,y18.2.2.2.2.2.1,())) (λy19 =>
       none) (λy19 =>
       some (.inr (y19.1,y19.2.1,y19.2.2.1,y19.2.2.2.1,y19.2.2.2.2.1,y19.2.2.2.2.2.1,y19.2.2.2.2.2.2.1,())))) (
      br (decide (y14.1>255)) (
       ob2 (aR n (43,at3,y18.2.1,y18.2.2.1,y18.2.2.2.1,y18.2.2.2.2.1,y18.2.2.2.2.2.1,())) (λy20 =>
        none) (λy20 =>
        some (.inr (y20.1,y20.2.1,y20.2.2.1,y20.2.2.2.1,y20.2.2.2.2.1,y20.2.2.2.2.2.1,y20.2.2.2.2.2.2.1,())))) (
       br (decide (y16.1>255)) (
        ob2 (aR n (43,at3,y18.2.1,y18.2.2.1,y18.2.2.2.1,y18.2.2.2.2.1,y18.2.2.2.2.2.1,())) (λy21 =>
         none) (λy21 =>
         some (.inr (y21.1,y21.2.1,y21.2.2.1,y21.2.2.2.1,y21.2.2.2.2.1,y21.2.2.2.2.2.1,y21.2.2.2.2.2.2.1,())))) (
        br (y16.1 != (-1)) (
         let v22:Int:=if 1>y14.1 then 1 else y14.1
         br (decide (y16.1<v22)) (
          ob2 (aR n (43,at3,y18.2.1,y18.2.2.1,y18.2.2.2.1,y18.2.2.2.2.1,y18.2.2.2.2.2.1,())) (λy23 =>
           none) (λy23 =>
           some (.inr (y23.1,y23.2.1,y23.2.2.1,y23.2.2.2.1,y23.2.2.2.2.1,y23.2.2.2.2.2.1,y23.2.2.2.2.2.2.1,())))) (
          ob (dJ n (6,[0,0,0,0],zOf,0,y14.1,y16.1,0,y18.2.1,y18.2.2.1,y18.2.2.2.1,y18.2.2.2.2.1,y18.2.2.2.2.2.1,())) λy24 =>
          ob (bL n ([42],y24.2.1,y24.2.2.1,y24.2.2.2.1,y24.2.2.2.2.1,y24.2.2.2.2.2.1,())) λy25 =>
          br y25.1 (
           ob2 (aR n (43,y25.2.2.1,y25.2.1,y25.2.2.1,y25.2.2.2.1,y25.2.2.2.2.1,y25.2.2.2.2.2.1,())) (λy26 =>
            none) (λy26 =>
            some (.inr (y26.1,y26.2.1,y26.2.2.1,y26.2.2.2.1,y26.2.2.2.2.1,y26.2.2.2.2.2.1,y26.2.2.2.2.2.2.1,())))) (
           ob (bL n ([92,123],y25.2.1,y25.2.2.1,y25.2.2.2.1,y25.2.2.2.2.1,y25.2.2.2.2.2.1,())) λy27 =>
           br y27.1 (
            ob2 (aR n (43,y27.2.2.1,y27.2.1,y27.2.2.1,y27.2.2.2.1,y27.2.2.2.2.1,y27.2.2.2.2.2.1,())) (λy28 =>
             none) (λy28 =>
             some (.inr (y28.1,y28.2.1,y28.2.2.1,y28.2.2.2.1,y28.2.2.2.2.1,y28.2.2.2.2.2.1,y28.2.2.2.2.2.2.1,())))) (
            some (.inl (y24.1,y27.2.1,y27.2.2.1,y27.2.2.2.1,y27.2.2.2.2.1,y27.2.2.2.2.2.1,())))))) (
         ob (dJ n (6,[0,0,0,0],zOf,0,y14.1,y16.1,0,y18.2.1,y18.2.2.1,y18.2.2.2.1,y18.2.2.2.2.1,y18.2.2.2.2.2.1,())) λy29 =>
         ob (bL n ([42],y29.2.1,y29.2.2.1,y29.2.2.2.1,y29.2.2.2.2.1,y29.2.2.2.2.2.1,())) λy30 =>
         br y30.1 (
          ob2 (aR n (43,y30.2.2.1,y30.2.1,y30.2.2.1,y30.2.2.2.1,y30.2.2.2.2.1,y30.2.2.2.2.2.1,())) (λy31 =>
           none) (λy31 =>
           some (.inr (y31.1,y31.2.1,y31.2.2.1,y31.2.2.2.1,y31.2.2.2.2.1,y31.2.2.2.2.2.1,y31.2.2.2.2.2.2.1,())))) (
          ob (bL n ([92,123],y30.2.1,y30.2.2.1,y30.2.2.2.1,y30.2.2.2.2.1,y30.2.2.2.2.2.1,())) λy32 =>
          br y32.1 (
           ob2 (aR n (43,y32.2.2.1,y32.2.1,y32.2.2.1,y32.2.2.2.1,y32.2.2.2.2.1,y32.2.2.2.2.2.1,())) (λy33 =>
            none) (λy33 =>
            some (.inr (y33.1,y33.2.1,y33.2.2.1,y33.2.2.2.1,y33.2.2.2.2.1,y33.2.2.2.2.2.1,y33.2.2.2.2.2.2.1,())))) (
           some (.inl (y29.1,y32.2.1,y32.2.2.1,y32.2.2.2.1,y32.2.2.2.2.1,y32.2.2.2.2.2.1,())))))))))) (
    br (y14.1==(-1)) (
     ob2 (aR n (43,at3,y15.2.1,y15.2.2.1,y15.2.2.2.1,y15.2.2.2.2.1,y15.2.2.2.2.2.1,())) (λy34 =>
      none) (λy34 =>
      some (.inr (y34.1,y34.2.1,y34.2.2.1,y34.2.2.2.1,y34.2.2.2.2.1,y34.2.2.2.2.2.1,y34.2.2.2.2.2.2.1,())))) (
     ob (dQ n ([92,125],y15.2.1,y15.2.2.1,y15.2.2.2.1,y15.2.2.2.2.1,y15.2.2.2.2.2.1,())) λy35 =>
     br (!y35.1) (
      ob2 (aR n (43,at3,y35.2.1,y35.2.2.1,y35.2.2.2.1,y35.2.2.2.2.1,y35.2.2.2.2.2.1,())) (λy36 =>
       none) (λy36 =>
       some (.inr (y36.1,y36.2.1,y36.2.2.1,y36.2.2.2.1,y36.2.2.2.2.1,y36.2.2.2.2.2.1,y36.2.2.2.2.2.2.1,())))) (
      br (decide (y14.1>255)) (
       ob2 (aR n (43,at3,y35.2.1,y35.2.2.1,y35.2.2.2.1,y35.2.2.2.2.1,y35.2.2.2.2.2.1,())) (λy37 =>
        none) (λy37 =>
        some (.inr (y37.1,y37.2.1,y37.2.2.1,y37.2.2.2.1,y37.2.2.2.2.1,y37.2.2.2.2.2.1,y37.2.2.2.2.2.2.1,())))) (
       br (decide (y14.1>255)) (
        ob2 (aR n (43,at3,y35.2.1,y35.2.2.1,y35.2.2.2.1,y35.2.2.2.2.1,y35.2.2.2.2.2.1,())) (λy38 =>
         none) (λy38 =>
         some (.inr (y38.1,y38.2.1,y38.2.2.1,y38.2.2.2.1,y38.2.2.2.2.1,y38.2.2.2.2.2.1,y38.2.2.2.2.2.2.1,())))) (
        br (y14.1 != (-1)) (
         let v39:Int:=if 1>y14.1 then 1 else y14.1
         br (decide (y14.1<v39)) (
          ob2 (aR n (43,at3,y35.2.1,y35.2.2.1,y35.2.2.2.1,y35.2.2.2.2.1,y35.2.2.2.2.2.1,())) (λy40 =>
           none) (λy40 =>
           some (.inr (y40.1,y40.2.1,y40.2.2.1,y40.2.2.2.1,y40.2.2.2.2.1,y40.2.2.2.2.2.1,y40.2.2.2.2.2.2.1,())))) (
          ob (dJ n (6,[0,0,0,0],zOf,0,y14.1,y14.1,0,y35.2.1,y35.2.2.1,y35.2.2.2.1,y35.2.2.2.2.1,y35.2.2.2.2.2.1,())) λy41 =>
          ob (bL n ([42],y41.2.1,y41.2.2.1,y41.2.2.2.1,y41.2.2.2.2.1,y41.2.2.2.2.2.1,())) λy42 =>
          br y42.1 (
           ob2 (aR n (43,y42.2.2.1,y42.2.1,y42.2.2.1,y42.2.2.2.1,y42.2.2.2.2.1,y42.2.2.2.2.2.1,())) (λy43 =>
            none) (λy43 =>
            some (.inr (y43.1,y43.2.1,y43.2.2.1,y43.2.2.2.1,y43.2.2.2.2.1,y43.2.2.2.2.2.1,y43.2.2.2.2.2.2.1,())))) (
           ob (bL n ([92,123],y42.2.1,y42.2.2.1,y42.2.2.2.1,y42.2.2.2.2.1,y42.2.2.2.2.2.1,())) λy44 =>
           br y44.1 (
            ob2 (aR n (43,y44.2.2.1,y44.2.1,y44.2.2.1,y44.2.2.2.1,y44.2.2.2.2.1,y44.2.2.2.2.2.1,())) (λy45 =>
             none) (λy45 =>
             some (.inr (y45.1,y45.2.1,y45.2.2.1,y45.2.2.2.1,y45.2.2.2.2.1,y45.2.2.2.2.2.1,y45.2.2.2.2.2.2.1,())))) (
            some (.inl (y41.1,y44.2.1,y44.2.2.1,y44.2.2.2.1,y44.2.2.2.2.1,y44.2.2.2.2.2.1,())))))) (
         ob (dJ n (6,[0,0,0,0],zOf,0,y14.1,y14.1,0,y35.2.1,y35.2.2.1,y35.2.2.2.1,y35.2.2.2.2.1,y35.2.2.2.2.2.1,())) λy46 =>
         ob (bL n ([42],y46.2.1,y46.2.2.1,y46.2.2.2.1,y46.2.2.2.2.1,y46.2.2.2.2.2.1,())) λy47 =>
         br y47.1 (
          ob2 (aR n (43,y47.2.2.1,y47.2.1,y47.2.2.1,y47.2.2.2.1,y47.2.2.2.2.1,y47.2.2.2.2.2.1,())) (λy48 =>
           none) (λy48 =>
           some (.inr (y48.1,y48.2.1,y48.2.2.1,y48.2.2.2.1,y48.2.2.2.2.1,y48.2.2.2.2.2.1,y48.2.2.2.2.2.2.1,())))) (
          ob (bL n ([92,123],y47.2.1,y47.2.2.1,y47.2.2.2.1,y47.2.2.2.2.1,y47.2.2.2.2.2.1,())) λy49 =>
          br y49.1 (
           ob2 (aR n (43,y49.2.2.1,y49.2.1,y49.2.2.1,y49.2.2.2.1,y49.2.2.2.2.1,y49.2.2.2.2.2.1,())) (λy50 =>
            none) (λy50 =>
            some (.inr (y50.1,y50.2.1,y50.2.2.1,y50.2.2.2.1,y50.2.2.2.2.1,y50.2.2.2.2.2.1,y50.2.2.2.2.2.2.1,())))) (
           some (.inl (y46.1,y49.2.1,y49.2.2.1,y49.2.2.2.1,y49.2.2.2.2.1,y49.2.2.2.2.2.1,()))))))))))))
def vY (n:Nat) (aX:(jR)->Option yQ) (x:Int×jR):Option yQ :=let zYk:=x.1
 let s2:=x.2.1
 let at3:=x.2.2.1
 let gP:=x.2.2.2.1
 let gQ:=x.2.2.2.2.1
 let bM:=x.2.2.2.2.2.1
 br (gP==9) (ob2 (aR n (41,zYk,s2,at3,gP,gQ,bM,())) (fun y7 =>none) (fun y7 =>some (.inr (y7.1,y7.2.1,y7.2.2.1,y7.2.2.2.1,y7.2.2.2.2.1,y7.2.2.2.2.2.1,y7.2.2.2.2.2.2.1,())))) (let v8:Int:=qEq .i64 (gP+1)
 ob2 (aX (s2,at3,v8,gQ,bM,())) (fun y9 =>br (y9.1==(-1)) (ob2 (aR n (41,zYk,y9.2.1,y9.2.2.1,y9.2.2.2.1,y9.2.2.2.2.1,y9.2.2.2.2.2.1,())) (fun y10 =>none) (fun y10 =>some (.inr (y10.1,y10.2.1,y10.2.2.1,y10.2.2.2.1,y10.2.2.2.2.1,y10.2.2.2.2.2.1,y10.2.2.2.2.2.2.1,())))) (ob (dQ n ([92,41],y9.2.1,y9.2.2.1,y9.2.2.2.1,y9.2.2.2.2.1,y9.2.2.2.2.2.1,())) fun y11 =>br (!y11.1) (ob2 (aR n (41,zYk,y11.2.1,y11.2.2.1,y11.2.2.2.1,y11.2.2.2.2.1,y11.2.2.2.2.2.1,())) (fun y12 =>none) (fun y12 =>some (.inr (y12.1,y12.2.1,y12.2.2.1,y12.2.2.2.1,y12.2.2.2.2.1,y12.2.2.2.2.2.1,y12.2.2.2.2.2.2.1,())))) (chk (inB v8 10) (chk (decide (v8.toNat < 10)) (ob (dJ n (7,[0,0,0,0],y9.1,0,0,0,v8,y11.2.1,y11.2.2.1,y11.2.2.2.1,y11.2.2.2.2.1.set (v8.toNat) true,y11.2.2.2.2.2.1,())) fun y13 =>some (.inl (y13.1,y13.2.1,y13.2.2.1,y13.2.2.2.1,y13.2.2.2.2.1,y13.2.2.2.2.2.1,()))))))) (fun y9 =>some (.inr (y9.1,y9.2.1,y9.2.2.1,y9.2.2.2.1,y9.2.2.2.2.1,y9.2.2.2.2.2.1,y9.2.2.2.2.2.2.1,()))))
def xX (n:Nat) (aX:(jR)->Option yQ) (x:Bool×jR):Option yQ :=let Lv:=x.1
 let s2:=x.2.1
 let at3:=x.2.2.1
 let gP:=x.2.2.2.1
 let gQ:=x.2.2.2.2.1
 let bM:=x.2.2.2.2.2.1
 let v7:Int:=qEq .i64 (at3+1)
 br (v7==(s2.length:Int)) (ob2 (aR n (40,at3,s2,v7,gP,gQ,bM,())) (fun y8 =>none) (fun y8 =>some (.inr (y8.1,y8.2.1,y8.2.2.1,y8.2.2.2.1,y8.2.2.2.2.1,y8.2.2.2.2.2.1,y8.2.2.2.2.2.2.1,())))) (chk (inB v7 s2.length) (let v9:Int:=((aM 0 s2 v7).toNat:Int)
 let v10:Int:=qEq .i64 (v7+1)
 br (v9==40) (ob2 (vY n aX (at3,s2,v10,gP,gQ,bM,())) (fun y11 =>some (.inl (y11.1,y11.2.1,y11.2.2.1,y11.2.2.2.1,y11.2.2.2.2.1,y11.2.2.2.2.2.1,()))) (fun y11 =>some (.inr (y11.1,y11.2.1,y11.2.2.1,y11.2.2.2.1,y11.2.2.2.2.1,y11.2.2.2.2.2.1,y11.2.2.2.2.2.2.1,())))) (br (decide (v9≥49)) (br (decide (v9<=57)) (let v12:Int:=qEq .u8 (v9 - 48)
 chk (inB (qEq .i64 v12) 10) (chk (decide ((qEq .i64 v12).toNat < 10)) (br (!(gQ.getD ((qEq .i64 v12).toNat) (Ty.dflt .bool))) (ob2 (aR n (44,at3,s2,v10,gP,gQ,bM,())) (fun y13 =>none) (fun y13 =>some (.inr (y13.1,y13.2.1,y13.2.2.1,y13.2.2.2.1,y13.2.2.2.2.1,y13.2.2.2.2.2.1,y13.2.2.2.2.2.2.1,())))) (ob (dJ n (8,[0,0,0,0],0,0,0,0,qEq .i64 v12,s2,v10,gP,gQ,bM,())) fun y14 =>some (.inl (y14.1,y14.2.1,y14.2.2.1,y14.2.2.2.1,y14.2.2.2.2.1,y14.2.2.2.2.2.1,())))))) (br (v9==110) (ob (xW n [10]) fun y15 =>ob (dZ n (y15,s2,v10,gP,gQ,bM,())) fun y16 =>some (.inl (y16.1,y16.2.1,y16.2.2.1,y16.2.2.2.1,y16.2.2.2.2.1,y16.2.2.2.2.2.1,()))) (ob (strings_IndexByte n ([46,91,92,42,94,36,47],v9)) fun y17 =>br (decide (y17≥0)) (ob (dW n (v9,v9)) fun y18 =>ob (dZ n (y18,s2,v10,gP,gQ,bM,())) fun y19 =>some (.inl (y19.1,y19.2.1,y19.2.2.1,y19.2.2.2.1,y19.2.2.2.2.1,y19.2.2.2.2.2.1,()))) (br (v9==123) (br Lv (ob2 (aR n (43,at3,s2,v10,gP,gQ,bM,())) (fun y20 =>none) (fun y20 =>some (.inr (y20.1,y20.2.1,y20.2.2.1,y20.2.2.2.1,y20.2.2.2.2.1,y20.2.2.2.2.2.1,y20.2.2.2.2.2.2.1,())))) (ob2 (aR n (40,at3,s2,v10,gP,gQ,bM,())) (fun y21 =>none) (fun y21 =>some (.inr (y21.1,y21.2.1,y21.2.2.1,y21.2.2.2.1,y21.2.2.2.2.1,y21.2.2.2.2.2.1,y21.2.2.2.2.2.2.1,()))))) (ob2 (aR n (40,at3,s2,v10,gP,gQ,bM,())) (fun y22 =>none) (fun y22 =>some (.inr (y22.1,y22.2.1,y22.2.2.1,y22.2.2.2.1,y22.2.2.2.2.1,y22.2.2.2.2.2.1,y22.2.2.2.2.2.2.1,())))))))) (br (v9==110) (ob (xW n [10]) fun y23 =>ob (dZ n (y23,s2,v10,gP,gQ,bM,())) fun y24 =>some (.inl (y24.1,y24.2.1,y24.2.2.1,y24.2.2.2.1,y24.2.2.2.2.1,y24.2.2.2.2.2.1,()))) (ob (strings_IndexByte n ([46,91,92,42,94,36,47],v9)) fun y25 =>br (decide (y25≥0)) (ob (dW n (v9,v9)) fun y26 =>ob (dZ n (y26,s2,v10,gP,gQ,bM,())) fun y27 =>some (.inl (y27.1,y27.2.1,y27.2.2.1,y27.2.2.2.1,y27.2.2.2.2.1,y27.2.2.2.2.2.1,()))) (br (v9==123) (br Lv (ob2 (aR n (43,at3,s2,v10,gP,gQ,bM,())) (fun y28 =>none) (fun y28 =>some (.inr (y28.1,y28.2.1,y28.2.2.1,y28.2.2.2.1,y28.2.2.2.2.1,y28.2.2.2.2.2.1,y28.2.2.2.2.2.2.1,())))) (ob2 (aR n (40,at3,s2,v10,gP,gQ,bM,())) (fun y29 =>none) (fun y29 =>some (.inr (y29.1,y29.2.1,y29.2.2.1,y29.2.2.2.1,y29.2.2.2.2.1,y29.2.2.2.2.2.1,y29.2.2.2.2.2.2.1,()))))) (ob2 (aR n (40,at3,s2,v10,gP,gQ,bM,())) (fun y30 =>none) (fun y30 =>some (.inr (y30.1,y30.2.1,y30.2.2.1,y30.2.2.2.1,y30.2.2.2.2.1,y30.2.2.2.2.2.1,y30.2.2.2.2.2.2.1,()))))))))))
def xY (n:Nat) (aX:(jR)->Option yQ) (x:Bool×jR):Option yQ :=let Lv:=x.1
 let s2:=x.2.1
 let at3:=x.2.2.1
 let gP:=x.2.2.2.1
 let gQ:=x.2.2.2.2.1
 let bM:=x.2.2.2.2.2.1
 ob (dQ n ([46],s2,at3,gP,gQ,bM,())) fun y7 =>br y7.1 (ob (Xv n ([0,0,0,0])) fun y8 =>ob (dZ n (y8,y7.2.1,y7.2.2.1,y7.2.2.2.1,y7.2.2.2.2.1,y7.2.2.2.2.2.1,())) fun y9 =>some (.inl (y9.1,y9.2.1,y9.2.2.1,y9.2.2.2.1,y9.2.2.2.2.1,y9.2.2.2.2.2.1,()))) (ob (bL n ([91],y7.2.1,y7.2.2.1,y7.2.2.2.1,y7.2.2.2.2.1,y7.2.2.2.2.2.1,())) fun y10 =>br y10.1 (chk ((decide (0<=y10.2.2.1)&&decide (y10.2.2.1<=(y10.2.1.length:Int)))) (let v11:List UInt8:=y10.2.1.drop y10.2.2.1.toNat
 ob (yS n v11) fun y12 =>br (y12.2.2 != 0) (ob2 (aR n (y12.2.2,y10.2.2.1,y10.2.1,y10.2.2.1,y10.2.2.2.1,y10.2.2.2.2.1,y10.2.2.2.2.2.1,())) (fun y13 =>none) (fun y13 =>some (.inr (y13.1,y13.2.1,y13.2.2.1,y13.2.2.2.1,y13.2.2.2.2.1,y13.2.2.2.2.2.1,y13.2.2.2.2.2.2.1,())))) (let v14:Int:=qEq .i64 (y10.2.2.1+y12.2.1)
 ob (dZ n (y12.1,y10.2.1,v14,y10.2.2.2.1,y10.2.2.2.2.1,y10.2.2.2.2.2.1,())) fun y15 =>some (.inl (y15.1,y15.2.1,y15.2.2.1,y15.2.2.2.1,y15.2.2.2.2.1,y15.2.2.2.2.2.1,()))))) (ob (bL n ([92],y10.2.1,y10.2.2.1,y10.2.2.2.1,y10.2.2.2.2.1,y10.2.2.2.2.2.1,())) fun y16 =>br y16.1 (ob2 (xX n aX (Lv,y16.2.1,y16.2.2.1,y16.2.2.2.1,y16.2.2.2.2.1,y16.2.2.2.2.2.1,())) (fun y17 =>some (.inl (y17.1,y17.2.1,y17.2.2.1,y17.2.2.2.1,y17.2.2.2.2.1,y17.2.2.2.2.2.1,()))) (fun y17 =>some (.inr (y17.1,y17.2.1,y17.2.2.1,y17.2.2.2.1,y17.2.2.2.2.1,y17.2.2.2.2.2.1,y17.2.2.2.2.2.2.1,())))) (let v18:Int:=qEq .i64 (y16.2.2.1+1)
 let v19:Int:=qEq .i64 (v18 - 1)
 chk ((decide (0<=v18)&&decide (v18<=(y16.2.1.length:Int))&&(decide (0<=v19)&&decide (v19<=v18)))) (let v20:List UInt8:=(y16.2.1.take v18.toNat).drop v19.toNat
 ob (xW n v20) fun y21 =>ob (dZ n (y21,y16.2.1,v18,y16.2.2.2.1,y16.2.2.2.2.1,y16.2.2.2.2.2.1,())) fun y22 =>some (.inl (y22.1,y22.2.1,y22.2.2.1,y22.2.2.2.1,y22.2.2.2.2.1,y22.2.2.2.2.2.1,()))))))
def uY (n:Nat) (g1:Int×Int×List UInt8×Int×Int×List (Bool)×List (NdT)×List (Int)×Unit->Option yQ) (x50:Int×Int×List UInt8×Int×Int×List (Bool)×List (NdT)×List (Int)×Unit):Option yQ :=let yTj:=x50.1
 let yFl:=x50.2.1
 let s53:=x50.2.2.1
 let xFo:=x50.2.2.2.1
 let yLl:=x50.2.2.2.2.1
 let yLm:=x50.2.2.2.2.2.1
 let xAv:=x50.2.2.2.2.2.2.1
 let zOg:=x50.2.2.2.2.2.2.2.1
 br (decide (yFl≥0)) (chk ((inB yFl (zOg.length)&&decide (0+(zOg.length)<=zOg.length))) (chk (decide (0+yFl.toNat<zOg.length)) (let v59:Int:=zOg.getD (0+yFl.toNat) (Ty.dflt (.int .i64))
 ob (dJ n (4,[0,0,0,0],v59,yTj,0,0,0,s53,xFo,yLl,yLm,xAv,())) fun y60 =>let v61:Int:=qEq .i64 (yFl - 1)
 g1 (y60.1,v61,y60.2.1,y60.2.2.1,y60.2.2.2.1,y60.2.2.2.2.1,y60.2.2.2.2.2.1,zOg,())))) (some (.inl (yTj,s53,xFo,yLl,yLm,xAv,())))
def uZ (n:Nat) (x37:List UInt8×Int×Int×List (Bool)×List (NdT)×List (Int)×Unit):Option yQ :=let s38:=x37.1
 let xFp:=x37.2.1
 let yLn:=x37.2.2.1
 let yLo:=x37.2.2.2.1
 let xAw:=x37.2.2.2.2.1
 let Wy:=x37.2.2.2.2.2.1
 let v44:Int:=((Wy.length:Nat):Int)
 br (v44==0) (some (.inl ((-1),s38,xFp,yLn,yLo,xAw,()))) (let v45:Int:=((Wy.length:Nat):Int)
 let v46:Int:=qEq .i64 (v45 - 1)
 chk ((inB v46 (Wy.length)&&decide (0+(Wy.length)<=Wy.length))) (chk (decide (0+v46.toNat<Wy.length)) (let v47:Int:=Wy.getD (0+v46.toNat) (Ty.dflt (.int .i64))
 let v48:Int:=((Wy.length:Nat):Int)
 let v49:Int:=qEq .i64 (v48 - 2)
 fix (uY n) n (v47,v49,s38,xFp,yLn,yLo,xAw,Wy,()))))
def jS (n:Nat) (aX:(jR)->Option yQ) (g0:Bool×List UInt8×Int×Int×List (Bool)×List (NdT)×List (Int)×Unit->Option yQ) (x26:Bool×Bool×List UInt8×Int×Int×List (Bool)×List (NdT)×List (Int)×Unit):Option yQ :=let yXr:=x26.1
 let xFq:=x26.2.1
 let s29:=x26.2.2.1
 let yPg:=x26.2.2.2.1
 let yLp:=x26.2.2.2.2.1
 let yLq:=x26.2.2.2.2.2.1
 let xAx:=x26.2.2.2.2.2.2.1
 let yDj:=x26.2.2.2.2.2.2.2.1
 br xFq (let v35:Int:=qEq .i64 (yPg+1)
 ob (dJ n (3,[0,0,0,0],0,0,0,0,0,s29,v35,yLp,yLq,xAx,())) fun y36 =>chk (qBg ((yDj.length+([y36.1]:List (Int)).length) * 8) room) (jn (uZ n) (y36.2.1,y36.2.2.1,y36.2.2.2.1,y36.2.2.2.2.1,y36.2.2.2.2.2.1,yDj++[y36.1],()))) (ob2 (xY n aX (yXr,s29,yPg,yLp,yLq,xAx,())) (fun y62 =>ob2 (vX n (y62.1,y62.2.1,y62.2.2.1,y62.2.2.2.1,y62.2.2.2.2.1,y62.2.2.2.2.2.1,())) (fun y63 =>chk (qBg ((yDj.length+([y63.1]:List (Int)).length) * 8) room) (g0 (false,y63.2.1,y63.2.2.1,y63.2.2.2.1,y63.2.2.2.2.1,y63.2.2.2.2.2.1,yDj++[y63.1],()))) (fun y63 =>some (.inr (y63.1,y63.2.1,y63.2.2.1,y63.2.2.2.1,y63.2.2.2.2.1,y63.2.2.2.2.2.1,y63.2.2.2.2.2.2.1,())))) (fun y62 =>some (.inr (y62.1,y62.2.1,y62.2.2.1,y62.2.2.2.1,y62.2.2.2.2.1,y62.2.2.2.2.2.1,y62.2.2.2.2.2.2.1,()))))
def pO (n:Nat) (aX:(jR)->Option yQ) (g0:Bool×List UInt8×Int×Int×List (Bool)×List (NdT)×List (Int)×Unit->Option yQ) (x15:Bool×List UInt8×Int×Int×List (Bool)×List (NdT)×List (Int)×Unit):Option yQ :=let zSb:=x15.1
 let s17:=x15.2.1
 let xKy:=x15.2.2.1
 let xCo:=x15.2.2.2.1
 let xCp:=x15.2.2.2.2.1
 let xIx:=x15.2.2.2.2.2.1
 let qR:=x15.2.2.2.2.2.2.1
 ob (uL n (s17,xKy,xCo,xCp,xIx,())) fun y23 =>br (!y23.1) (ob (bL n ([36],y23.2.1,y23.2.2.1,y23.2.2.2.1,y23.2.2.2.2.1,y23.2.2.2.2.2.1,())) fun y24 =>br y24.1 (let v25:Int:=qEq .i64 (y24.2.2.1+1)
 br (v25==(y24.2.1.length:Int)) (jn (jS n aX g0) (zSb,true,y24.2.1,y24.2.2.1,y24.2.2.2.1,y24.2.2.2.2.1,y24.2.2.2.2.2.1,qR,())) (ob (bL n ([36,92,41],y24.2.1,y24.2.2.1,y24.2.2.2.1,y24.2.2.2.2.1,y24.2.2.2.2.2.1,())) fun y64 =>jn (jS n aX g0) (zSb,y64.1,y64.2.1,y64.2.2.1,y64.2.2.2.1,y64.2.2.2.2.1,y64.2.2.2.2.2.1,qR,()))) (jn (jS n aX g0) (zSb,false,y24.2.1,y24.2.2.1,y24.2.2.2.1,y24.2.2.2.2.1,y24.2.2.2.2.2.1,qR,()))) (jn (uZ n) (y23.2.1,y23.2.2.1,y23.2.2.2.1,y23.2.2.2.2.1,y23.2.2.2.2.2.1,qR,()))
def vB (n:Nat) (aX:(jR)->Option yQ) (x8:List UInt8×Int×Int×List (Bool)×List (NdT)×List (Int)×Unit):Option yQ :=let s9:=x8.1
 let xKz:=x8.2.1
 let xCq:=x8.2.2.1
 let xCr:=x8.2.2.2.1
 let zCb:=x8.2.2.2.2.1
 let xIy:=x8.2.2.2.2.2.1
 fix (pO n aX) n (true,s9,xKz,xCq,xCr,zCb,xIy,())
def wQ (n:Nat) (aX:(jR)->Option yQ) (x:jR):Option yQ :=let s1:=x.1
 let at2:=x.2.1
 let zEs:=x.2.2.1
 let zEt:=x.2.2.2.1
 let Dj:=x.2.2.2.2.1
 ob (dQ n ([94],s1,at2,zEs,zEt,Dj,())) fun y6 =>br y6.1 (ob (dJ n (2,[0,0,0,0],0,0,0,0,0,y6.2.1,y6.2.2.1,y6.2.2.2.1,y6.2.2.2.2.1,y6.2.2.2.2.2.1,())) fun y7 =>chk (qBg (([y7.1]:List (Int)).length * 8) room) (jn (vB n aX) (y7.2.1,y7.2.2.1,y7.2.2.2.1,y7.2.2.2.2.1,y7.2.2.2.2.2.1,[y7.1],()))) (jn (vB n aX) (y6.2.1,y6.2.2.1,y6.2.2.2.1,y6.2.2.2.2.1,y6.2.2.2.2.2.1,[],()))
def lT (n:Nat):(jR)->Option yQ :=yFh (fun n r x=>wQ n r x) n
def Jo (n:Nat) (x:List UInt8×jR):Option (Sum (List UInt8×jR) (Int×Int×List UInt8×jR)) :=let b1:=x.1
 let s2:=x.2.1
 let at3:=x.2.2.1
 let gP:=x.2.2.2.1
 let gQ:=x.2.2.2.2.1
 let bM:=x.2.2.2.2.2.1
 ob2 (lT n (s2,at3,gP,gQ,bM,())) (fun y7 =>br (decide (y7.2.2.1<(b1.length:Int))) (ob2 (aR n (41,y7.2.2.1,y7.2.1,y7.2.2.1,y7.2.2.2.1,y7.2.2.2.2.1,y7.2.2.2.2.2.1,())) (fun y8 =>none) (fun y8 =>some (.inr (y8.1,y8.2.1,b1,y8.2.2.1,y8.2.2.2.1,y8.2.2.2.2.1,y8.2.2.2.2.2.1,y8.2.2.2.2.2.2.1,())))) (let v9:Int:=((y7.2.2.2.2.2.1.length:Nat):Int)
 br (decide (v9 > 120)) (ob2 (aR n (2,0,y7.2.1,y7.2.2.1,y7.2.2.2.1,y7.2.2.2.2.1,y7.2.2.2.2.2.1,())) (fun y10 =>none) (fun y10 =>some (.inr (y10.1,y10.2.1,b1,y10.2.2.1,y10.2.2.2.1,y10.2.2.2.2.1,y10.2.2.2.2.2.1,y10.2.2.2.2.2.2.1,())))) (some (.inl (b1,y7.2.1,y7.2.2.1,y7.2.2.2.1,y7.2.2.2.2.1,y7.2.2.2.2.2.1,()))))) (fun y7 =>some (.inr (y7.1,y7.2.1,b1,y7.2.2.1,y7.2.2.2.1,y7.2.2.2.2.1,y7.2.2.2.2.2.1,y7.2.2.2.2.2.2.1,())))
def kE (n:Nat) (x:List UInt8×jR):Option (Int×Int×List UInt8×jR):=ob2 (Jo n x) (fun y=>some (0,0,y)) (fun y=>some y)
def Lx (n:Nat) (x:List UInt8):Option (List (NdT)×Int×Int) :=let s_0:=x
 br (s_0==[]) (some ([(0,([0,0,0,0],(0,(0,(0,(0,(0,())))))))],0,0)) (ob (kE n (s_0,s_0,0,0,[false,false,false,false,false,false,false,false,false,false],[],())) fun y1 =>br (y1.1 != 0) (some ([],y1.2.1,y1.1)) (some (y1.2.2.2.2.2.2.2.1,0,0)))
def qL (n:Nat) (x:Int×List (Int)×Int×Int×Int×Int×Int×Unit):Option (Int) :=let n_0:=x
 br (n_0.1==4) (br (n_0.1==4) (some 2) (br (n_0.1==6) (br (n_0.1==6) (some 1) (some 0)) (br (n_0.1==7) (some 1) (some 0)))) (br (n_0.1==5) (some 2) (br (n_0.1==6) (br (n_0.1==6) (some 1) (some 0)) (br (n_0.1==7) (some 1) (some 0))))
def dM (n:Nat) (x:Int×List (Int)×Int×Int×Int×Int×Int×Unit):Option (NdT) :=let n_0:=x
 br (n_0.1==1) (some (n_0.1,(n_0.2.1,(0,(0,(0,(0,(0,())))))))) (br (n_0.1==4) (br (n_0.1==4) (some (n_0.1,([0,0,0,0],(n_0.2.2.1,(n_0.2.2.2.1,(0,(0,(0,())))))))) (br (n_0.1==6) (some (n_0.1,([0,0,0,0],(n_0.2.2.1,(0,(n_0.2.2.2.2.1,(n_0.2.2.2.2.2.1,(0,())))))))) (br (n_0.1==7) (some (n_0.1,([0,0,0,0],(n_0.2.2.1,(0,(0,(0,n_0.2.2.2.2.2.2))))))) (br (n_0.1==8) (some (n_0.1,([0,0,0,0],(0,(0,(0,(0,n_0.2.2.2.2.2.2))))))) (some (n_0.1,([0,0,0,0],(0,(0,(0,(0,(0,())))))))))))) (br (n_0.1==5) (some (n_0.1,([0,0,0,0],(n_0.2.2.1,(n_0.2.2.2.1,(0,(0,(0,())))))))) (br (n_0.1==6) (some (n_0.1,([0,0,0,0],(n_0.2.2.1,(0,(n_0.2.2.2.2.1,(n_0.2.2.2.2.2.1,(0,())))))))) (br (n_0.1==7) (some (n_0.1,([0,0,0,0],(n_0.2.2.1,(0,(0,(0,n_0.2.2.2.2.2.2))))))) (br (n_0.1==8) (some (n_0.1,([0,0,0,0],(0,(0,(0,(0,n_0.2.2.2.2.2.2))))))) (some (n_0.1,([0,0,0,0],(0,(0,(0,(0,(0,())))))))))))))
def yT(n:Nat)(x:Int × List (Int) × Int × Int × Int × Int × Int × Unit):Option (Bool):=
 let n_0:Int × List (Int) × Int × Int × Int × Int × Int × Unit:=x
 br (decide (n_0.1<0)) (
  some false) (
  br (decide (n_0.1>8)) (
   some false) (
   ob (dM n n_0) λy1 =>
   br (!(Ty.beq aT n_0 y1)) (
    some false) (
    br (n_0.1==1) (
     some (!(Ty.beq (.arr 4 (.int .u64)) n_0.2.1 ([0,0,0,0])))) (
     br (n_0.1==6) (
      br (decide (n_0.2.2.2.2.1≥0)) (
       br (decide (n_0.2.2.2.2.1<=255)) (
        br (n_0.2.2.2.2.2.1==(-1)) (
         some true) (
         let v2:Int:=if 1>n_0.2.2.2.2.1 then 1 else n_0.2.2.2.2.1
         br (decide (n_0.2.2.2.2.2.1≥v2)) (
          some (decide (n_0.2.2.2.2.2.1<=255))) (
          some false))) (
        some false)) (
       some false)) (
      br (n_0.1==7) (
       br (n_0.1==7) (
        br (decide (n_0.2.2.2.2.2.2.1≥1)) (
         some (decide (n_0.2.2.2.2.2.2.1<=9))) (
         some false)) (
        some true)) (
       br (n_0.1==8) (
        br (decide (n_0.2.2.2.2.2.2.1≥1)) (
         some (decide (n_0.2.2.2.2.2.2.1<=9))) (
         some false)) (
        some true)))))))
def zDd (n:Nat) (g0:List (Int)×Int×Int×Int×Unit->Option (Int)) (x1:List (Int)×Int×Int×Int×Unit):Option (Int) :=let s_2:=x1.1
 let v_3:=x1.2.1
 let yFm:=x1.2.2.1
 let Yt:=x1.2.2.2.1
 br (decide (Yt<yFm)) (chk (inB Yt s_2.length) (let v6:Int:=aM (Ty.dflt (.int .i64)) s_2 Yt
 br (v_3==v6) (some Yt) (let v7:Int:=qEq .i64 (Yt+1)
 g0 (s_2,v_3,yFm,v7,())))) (some (-1))
def La (n:Nat) (x:List (Int)×Int):Option (Int) :=let s_0:=x.1
 let v_1:=x.2
 fix (zDd n) n (s_0,v_1,(s_0.length:Int),0,())
def wR (n:Nat) (x:List (Int)×Int):Option (Bool) :=let s_0:=x.1
 let v_1:=x.2
 ob (La n (s_0,v_1)) fun y1 =>some (decide (y1≥0))
def qH (n:Nat) (x:List (NdT)×Int×List (Int)×Int×Int×Int×Int×Int×Unit):Option (Bool) :=let l_0:=x.1
 let n_1:=x.2
 br (n_1.1==4) (chk (inB n_1.2.2.1 l_0.length) (let v1:Int×List (Int)×Int×Int×Int×Int×Int×Unit:=aM (Ty.dflt aT) l_0 n_1.2.2.1
 br (v1.1 != 4) (chk (inB n_1.2.2.1 l_0.length) (let v2:Int×List (Int)×Int×Int×Int×Int×Int×Unit:=aM (Ty.dflt aT) l_0 n_1.2.2.1
 br (v2.1 != 5) (chk (inB n_1.2.2.2.1 l_0.length) (let v3:Int×List (Int)×Int×Int×Int×Int×Int×Unit:=aM (Ty.dflt aT) l_0 n_1.2.2.2.1
 some (v3.1 != 5))) (some false))) (some false))) (br (n_1.1==5) (chk (inB n_1.2.2.1 l_0.length) (let v4:Int×List (Int)×Int×Int×Int×Int×Int×Unit:=aM (Ty.dflt aT) l_0 n_1.2.2.1
 some (v4.1 != 5))) (br (n_1.1==6) (chk (inB n_1.2.2.1 l_0.length) (let v5:Int×List (Int)×Int×Int×Int×Int×Int×Unit:=aM (Ty.dflt aT) l_0 n_1.2.2.1
 ob (wR n ([1,7,8],v5.1)) fun y6 =>some y6)) (some true)))
def jT (n:Nat) (g0:List (NdT)×List (NdT)×Int×Int×List (Int)×Unit->Option (Bool)) (x1:List (NdT)×List (NdT)×Int×Int×List (Int)×Unit):Option (Bool) :=let l_2:=x1.1
 let zLj:=x1.2.1
 let Yu:=x1.2.2.1
 let oN:=x1.2.2.2.1
 let bM:=x1.2.2.2.2.1
 br (decide (oN<Yu)) (chk (inB oN zLj.length) (let v7:Int×List (Int)×Int×Int×Int×Int×Int×Unit:=aM (Ty.dflt aT) zLj oN
 let v8:Int:=((bM.length:Nat):Int)
 ob (qL n v7) fun y9 =>let v10:Int:=qEq .i64 (v8-y9)
 ob (yT n v7) fun y11 =>br (!y11) (some false) (br (decide (v10 < 0)) (some false) (br (v7.1==0) (br (decide ((l_2.length:Int) > 1)) (some false) (chk ((decide (0<=v10)&&decide (v10<=(bM.length:Int)))) (let v12:Int:=(((bM.length)-(v10.toNat):Nat):Int)
 br (decide (v12 > 0)) (chk ((inB 0 ((bM.length)-(v10.toNat))&&decide ((0+(v10.toNat))+((bM.length)-(v10.toNat))<=bM.length))) (chk (decide ((0+(v10.toNat))+(0:Int).toNat<bM.length)) (let v13:Int:=bM.getD ((0+(v10.toNat))+(0:Int).toNat) (Ty.dflt (.int .i64))
 br (v13 != v7.2.2.1) (some false) (let v14:Int:=(((bM.length)-(v10.toNat):Nat):Int)
 br (decide (v14 > 1)) (chk ((inB 1 ((bM.length)-(v10.toNat))&&decide ((0+(v10.toNat))+((bM.length)-(v10.toNat))<=bM.length))) (chk (decide ((0+(v10.toNat))+(1:Int).toNat<bM.length)) (let v15:Int:=bM.getD ((0+(v10.toNat))+(1:Int).toNat) (Ty.dflt (.int .i64))
 br (v15 != v7.2.2.2.1) (some false) (ob (qH n (l_2,v7)) fun y16 =>br (!y16) (some false) (chk ((decide (0<=v10)&&decide (v10<=(bM.length:Int)))) (chk ((qBg (v10.toNat) bM.length&&qBg (((v10.toNat)+([oN]:List (Int)).length) * 8) room)) (let r17:List (Int):=bM.take (v10.toNat)++[oN]
 let v18:Int:=qEq .i64 (oN+1)
 g0 (l_2,zLj,Yu,v18,r17,())))))))) (ob (qH n (l_2,v7)) fun y19 =>br (!y19) (some false) (chk ((decide (0<=v10)&&decide (v10<=(bM.length:Int)))) (chk ((qBg (v10.toNat) bM.length&&qBg (((v10.toNat)+([oN]:List (Int)).length) * 8) room)) (let r20:List (Int):=bM.take (v10.toNat)++[oN]
 let v21:Int:=qEq .i64 (oN+1)
 g0 (l_2,zLj,Yu,v21,r20,()))))))))) (ob (qH n (l_2,v7)) fun y22 =>br (!y22) (some false) (chk ((decide (0<=v10)&&decide (v10<=(bM.length:Int)))) (chk ((qBg (v10.toNat) bM.length&&qBg (((v10.toNat)+([oN]:List (Int)).length) * 8) room)) (let r23:List (Int):=bM.take (v10.toNat)++[oN]
 let v24:Int:=qEq .i64 (oN+1)
 g0 (l_2,zLj,Yu,v24,r23,())))))))) (chk ((decide (0<=v10)&&decide (v10<=(bM.length:Int)))) (let v25:Int:=(((bM.length)-(v10.toNat):Nat):Int)
 br (decide (v25 > 0)) (chk ((inB 0 ((bM.length)-(v10.toNat))&&decide ((0+(v10.toNat))+((bM.length)-(v10.toNat))<=bM.length))) (chk (decide ((0+(v10.toNat))+(0:Int).toNat<bM.length)) (let v26:Int:=bM.getD ((0+(v10.toNat))+(0:Int).toNat) (Ty.dflt (.int .i64))
 br (v26 != v7.2.2.1) (some false) (let v27:Int:=(((bM.length)-(v10.toNat):Nat):Int)
 br (decide (v27 > 1)) (chk ((inB 1 ((bM.length)-(v10.toNat))&&decide ((0+(v10.toNat))+((bM.length)-(v10.toNat))<=bM.length))) (chk (decide ((0+(v10.toNat))+(1:Int).toNat<bM.length)) (let v28:Int:=bM.getD ((0+(v10.toNat))+(1:Int).toNat) (Ty.dflt (.int .i64))
 br (v28 != v7.2.2.2.1) (some false) (ob (qH n (l_2,v7)) fun y29 =>br (!y29) (some false) (chk ((decide (0<=v10)&&decide (v10<=(bM.length:Int)))) (chk ((qBg (v10.toNat) bM.length&&qBg (((v10.toNat)+([oN]:List (Int)).length) * 8) room)) (let r30:List (Int):=bM.take (v10.toNat)++[oN]
 let v31:Int:=qEq .i64 (oN+1)
 g0 (l_2,zLj,Yu,v31,r30,())))))))) (ob (qH n (l_2,v7)) fun y32 =>br (!y32) (some false) (chk ((decide (0<=v10)&&decide (v10<=(bM.length:Int)))) (chk ((qBg (v10.toNat) bM.length&&qBg (((v10.toNat)+([oN]:List (Int)).length) * 8) room)) (let r33:List (Int):=bM.take (v10.toNat)++[oN]
 let v34:Int:=qEq .i64 (oN+1)
 g0 (l_2,zLj,Yu,v34,r33,()))))))))) (ob (qH n (l_2,v7)) fun y35 =>br (!y35) (some false) (chk ((decide (0<=v10)&&decide (v10<=(bM.length:Int)))) (chk ((qBg (v10.toNat) bM.length&&qBg (((v10.toNat)+([oN]:List (Int)).length) * 8) room)) (let r36:List (Int):=bM.take (v10.toNat)++[oN]
 let v37:Int:=qEq .i64 (oN+1)
 g0 (l_2,zLj,Yu,v37,r36,()))))))))))) (let v38:Int:=((bM.length:Nat):Int)
 some (v38==1))
def Ho (n:Nat) (x:List (NdT)):Option (Bool) :=let l_0:=x
 fix (jT n) n (l_0,l_0,(l_0.length:Int),0,[],())
def fA (n:Nat) (fK:(Int×List (NdT)×Int×Bool×List (Bool)×Bool×Unit)->Option (List (NdT)×Int×Bool×List (Bool)×Bool×Unit)) (x:Int×List (NdT)×Int×Bool×List (Bool)×Bool×Unit):Option (List (NdT)×Int×Bool×List (Bool)×Bool×Unit) :=let i_1:=x.1
 let b2:=x.2.1
 let b3:=x.2.2.1
 let b4:=x.2.2.2.1
 let b5:=x.2.2.2.2.1
 let b6:=x.2.2.2.2.2.1
 chk (inB i_1 b2.length) (let v7:Int×List (Int)×Int×Int×Int×Int×Int×Unit:=aM (Ty.dflt aT) b2 i_1
 br (v7.1==4) (br (v7.1==4) (ob (fK (v7.2.2.1,b2,b3,b4,b5,b6,())) fun y8 =>ob (fK (v7.2.2.2.1,y8.1,y8.2.1,y8.2.2.1,y8.2.2.2.1,y8.2.2.2.2.1,())) fun y9 =>some (y9.1,y9.2.1,y9.2.2.1,y9.2.2.2.1,y9.2.2.2.2.1,())) (br (v7.1==6) (ob (fK (v7.2.2.1,b2,b3,b4,b5,b6,())) fun y10 =>some (y10.1,y10.2.1,y10.2.2.1,y10.2.2.2.1,y10.2.2.2.2.1,())) (br (v7.1==7) (let v11:Int:=qEq .i64 (b3+1)
 br b4 (ob (fK (v7.2.2.1,b2,v11,(v7.2.2.2.2.2.2.1==v11),b5,b6,())) fun y12 =>chk (inB v7.2.2.2.2.2.2.1 10) (chk (decide (v7.2.2.2.2.2.2.1.toNat < 10)) (some (y12.1,y12.2.1,y12.2.2.1,y12.2.2.2.1.set (v7.2.2.2.2.2.2.1.toNat) true,y12.2.2.2.2.1,())))) (ob (fK (v7.2.2.1,b2,v11,false,b5,b6,())) fun y13 =>chk (inB v7.2.2.2.2.2.2.1 10) (chk (decide (v7.2.2.2.2.2.2.1.toNat < 10)) (some (y13.1,y13.2.1,y13.2.2.1,y13.2.2.2.1.set (v7.2.2.2.2.2.2.1.toNat) true,y13.2.2.2.2.1,()))))) (br (v7.1==8) (br b4 (chk (inB v7.2.2.2.2.2.2.1 10) (chk (decide (v7.2.2.2.2.2.2.1.toNat < 10)) (some (b2,b3,b5.getD (v7.2.2.2.2.2.2.1.toNat) (Ty.dflt .bool),b5,true,())))) (some (b2,b3,false,b5,true,()))) (some (b2,b3,b4,b5,b6,())))))) (br (v7.1==5) (ob (fK (v7.2.2.1,b2,b3,b4,b5,b6,())) fun y14 =>ob (fK (v7.2.2.2.1,y14.1,y14.2.1,y14.2.2.1,y14.2.2.2.1,y14.2.2.2.2.1,())) fun y15 =>some (y15.1,y15.2.1,y15.2.2.1,y15.2.2.2.1,y15.2.2.2.2.1,())) (br (v7.1==6) (ob (fK (v7.2.2.1,b2,b3,b4,b5,b6,())) fun y16 =>some (y16.1,y16.2.1,y16.2.2.1,y16.2.2.2.1,y16.2.2.2.2.1,())) (br (v7.1==7) (let v17:Int:=qEq .i64 (b3+1)
 br b4 (ob (fK (v7.2.2.1,b2,v17,(v7.2.2.2.2.2.2.1==v17),b5,b6,())) fun y18 =>chk (inB v7.2.2.2.2.2.2.1 10) (chk (decide (v7.2.2.2.2.2.2.1.toNat < 10)) (some (y18.1,y18.2.1,y18.2.2.1,y18.2.2.2.1.set (v7.2.2.2.2.2.2.1.toNat) true,y18.2.2.2.2.1,())))) (ob (fK (v7.2.2.1,b2,v17,false,b5,b6,())) fun y19 =>chk (inB v7.2.2.2.2.2.2.1 10) (chk (decide (v7.2.2.2.2.2.2.1.toNat < 10)) (some (y19.1,y19.2.1,y19.2.2.1,y19.2.2.2.1.set (v7.2.2.2.2.2.2.1.toNat) true,y19.2.2.2.2.1,()))))) (br (v7.1==8) (br b4 (chk (inB v7.2.2.2.2.2.2.1 10) (chk (decide (v7.2.2.2.2.2.2.1.toNat < 10)) (some (b2,b3,b5.getD (v7.2.2.2.2.2.2.1.toNat) (Ty.dflt .bool),b5,true,())))) (some (b2,b3,false,b5,true,()))) (some (b2,b3,b4,b5,b6,())))))))
def tZ (n:Nat):(Int×List (NdT)×Int×Bool×List (Bool)×Bool×Unit)->Option (List (NdT)×Int×Bool×List (Bool)×Bool×Unit) :=yFh (fun n r x=>fA n r x) n
def Sd (n:Nat) (x:List (NdT)):Option (Int×Bool×Bool) :=let l_0:=x
 let v1:Int:=qEq .i64 ((l_0.length:Int) - 1)
 ob (tZ n (v1,l_0,0,true,[false,false,false,false,false,false,false,false,false,false],false,())) fun y2 =>some (y2.2.1,y2.2.2.2.2.1,y2.2.2.1)
def Xx (n:Nat) (x:List (NdT)):Option (Int×Bool×Bool) :=let l_0:=x
 br ((l_0.length:Int)==0) (some (0,false,false)) (br (decide ((l_0.length:Int) > 120)) (some (0,false,false)) (ob (Ho n l_0) fun y1 =>br (!y1) (some (0,false,false)) (ob (Sd n l_0) fun y2 =>br (!y2.2.2) (some (0,false,false)) (some (y2.1,y2.2.1,true)))))
def Td (n:Nat) (x:List (NdT)):Option (Int) :=let l_0:=x
 ob (Xx n l_0) fun y1 =>some y1.1
def uM (n:Nat) (g0:Int×Int×List (Bool)×List (Bool)×Unit->Option (List (Bool))) (x1:Int×Int×List (Bool)×List (Bool)×Unit):Option (List (Bool)) :=let b_2:=x1.1
 let i_3:=x1.2.1
 let b4:=x1.2.2.1
 let b5:=x1.2.2.2.1
 br (decide (i_3<=(qEq .i64 b_2))) (chk (inB i_3 256) (chk (decide (i_3.toNat < 256)) (let v6:Int:=qEq .i64 (i_3+1)
 g0 (b_2,v6,b4,b5.set (i_3.toNat) true,())))) (some b5)
def jA (n:Nat) (x:Int×Int):Option (List (Bool)) :=let a_0:=x.1
 let b_1:=x.2
 fix (uM n) n (b_1,qEq .i64 a_0,(qAf 256 false),(qAf 256 false),())
def Hq (n:Nat) (g0:Int×List (Bool)×List (Bool)×List (Bool)×Unit->Option (List (Bool))) (x1:Int×List (Bool)×List (Bool)×List (Bool)×Unit):Option (List (Bool)) :=let i_2:=x1.1
 let b3:=x1.2.1
 let b4:=x1.2.2.1
 let b5:=x1.2.2.2.1
 br (decide (i_2 < 256)) (chk (inB i_2 256) (chk (decide (i_2.toNat < 256)) (br (b3.getD (i_2.toNat) (Ty.dflt .bool)) (chk (inB i_2 256) (chk (decide (i_2.toNat < 256)) (let v6:Int:=qEq .i64 (i_2+1)
 g0 (v6,b3.set (i_2.toNat) true,b4,b5,())))) (chk (inB i_2 256) (chk (decide (i_2.toNat < 256)) (chk (inB i_2 256) (chk (decide (i_2.toNat < 256)) (let v7:Int:=qEq .i64 (i_2+1)
 g0 (v7,b3.set (i_2.toNat) (b4.getD (i_2.toNat) (Ty.dflt .bool)),b4,b5,()))))))))) (some b3)
def Bd (n:Nat) (x:List (Bool)×List (Bool)):Option (List (Bool)) :=let a_0:=x.1
 let b_1:=x.2
 fix (Hq n) n (0,a_0,b_1,(qAf 256 false),())
def Hr (n:Nat) (g0:List UInt8×Int×List (Bool)×List (Bool)×Unit->Option (List (Bool))) (x1:List UInt8×Int×List (Bool)×List (Bool)×Unit):Option (List (Bool)) :=let s_2:=x1.1
 let i_3:=x1.2.1
 let b4:=x1.2.2.1
 let b5:=x1.2.2.2.1
 br (decide (i_3<(s_2.length:Int))) (chk (inB i_3 s_2.length) (let v6:Int:=((aM 0 s_2 i_3).toNat:Int)
 chk (inB v6 256) (chk (decide (v6.toNat < 256)) (let v7:Int:=qEq .i64 (i_3+1)
 g0 (s_2,v7,b4,b5.set (v6.toNat) true,()))))) (some b5)
def Yv (n:Nat) (x:List UInt8):Option (List (Bool)) :=let s_0:=x
 fix (Hr n) n (s_0,0,(qAf 256 false),(qAf 256 false),())
def uN (n:Nat) (g0:Int×List (Bool)×List (Bool)×List (Bool)×Unit->Option (List (Bool)×Bool)) (x21:Int×List (Bool)×List (Bool)×List (Bool)×Unit):Option (List (Bool)×Bool) :=let Lb:=x21.1
 let b23:=x21.2.1
 let b24:=x21.2.2.1
 let b25:=x21.2.2.2.1
 br (decide (Lb < 256)) (chk (inB Lb 256) (chk (decide (Lb.toNat < 256)) (br (b25.getD (Lb.toNat) (Ty.dflt .bool)) (chk (inB Lb 256) (chk (decide (Lb.toNat < 256)) (chk (inB Lb 256) (chk (decide (Lb.toNat < 256)) (let v26:Int:=qEq .i64 (Lb+1)
 g0 (v26,b23,b24,b25.set (Lb.toNat) (!(b24.getD (Lb.toNat) (Ty.dflt .bool))),())))))) (chk (inB Lb 256) (chk (decide (Lb.toNat < 256)) (let v27:Int:=qEq .i64 (Lb+1)
 g0 (v27,b23,b24,b25.set (Lb.toNat) false,()))))))) (some (b25,true))
def zQl (n:Nat) (x:List UInt8):Option (List (Bool)×Bool) :=let jY:=x
 ob (jA n (65,90)) fun y1 =>ob (jA n (97,122)) fun y2 =>ob (jA n (48,57)) fun y3 =>ob (Bd n (y1,y2)) fun y4 =>ob (Bd n (y4,y3)) fun y5 =>br (jY==[117,112,112,101,114]) (some (y1,true)) (br (jY==[108,111,119,101,114]) (some (y2,true)) (br (jY==[97,108,112,104,97]) (ob (Bd n (y1,y2)) fun y6 =>some (y6,true)) (br (jY==[100,105,103,105,116]) (some (y3,true)) (br (jY==[97,108,110,117,109]) (some (y5,true)) (br (jY==[120,100,105,103,105,116]) (ob (jA n (65,70)) fun y7 =>ob (jA n (97,102)) fun y8 =>ob (Bd n (y7,y8)) fun y9 =>ob (Bd n (y3,y9)) fun y10 =>some (y10,true)) (br (jY==[98,108,97,110,107]) (ob (Yv n [9,32]) fun y11 =>some (y11,true)) (br (jY==[115,112,97,99,101]) (ob (jA n (9,13)) fun y12 =>ob (Yv n [32]) fun y13 =>ob (Bd n (y12,y13)) fun y14 =>some (y14,true)) (br (jY==[99,110,116,114,108]) (ob (jA n (0,31)) fun y15 =>ob (jA n (127,127)) fun y16 =>ob (Bd n (y15,y16)) fun y17 =>some (y17,true)) (br (jY==[103,114,97,112,104]) (ob (jA n (33,126)) fun y18 =>some (y18,true)) (br (jY==[112,114,105,110,116]) (ob (jA n (32,126)) fun y19 =>some (y19,true)) (br (jY==[112,117,110,99,116]) (ob (jA n (33,126)) fun y20 =>fix (uN n) n (0,(qAf 256 false),y5,y20,())) (some ((qAf 256 false),false)))))))))))))
def zO (n:Nat) (g0:Int×List (Bool)×List (Int)×List (Int)×Unit->Option (List (Int))) (x1:Int×List (Bool)×List (Int)×List (Int)×Unit):Option (List (Int)) :=let i_2:=x1.1
 let b3:=x1.2.1
 let b4:=x1.2.2.1
 let b5:=x1.2.2.2.1
 br (decide (i_2≥0)) (chk ((!decide (64 = 0))) (let v6:Int:=qEq .i64 (Int.tdiv i_2 64)
 chk ((!decide (64 = 0))) (let v7:Int:=qEq .i64 (Int.tdiv i_2 64)
 chk (inB v7 4) (chk (decide (v7.toNat < 4)) (let v8:Int:=b5.getD (v7.toNat) (Ty.dflt (.int .u64))
 let v9:Int:=qEq .u64 (v8 * 2)
 chk (inB v6 4) (chk (decide (v6.toNat < 4)) (chk (inB i_2 256) (chk (decide (i_2.toNat < 256)) (br (b3.getD (i_2.toNat) (Ty.dflt .bool)) (chk ((!decide (64 = 0))) (let v10:Int:=qEq .i64 (Int.tdiv i_2 64)
 chk (inB v10 4) (chk (decide (v10.toNat < 4)) (let v11:Int:=(b5.set (v6.toNat) v9).getD (v10.toNat) (Ty.dflt (.int .u64))
 let v12:Int:=qEq .u64 (v11+1)
 chk (inB v10 4) (chk (decide (v10.toNat < 4)) (let v13:Int:=qEq .i64 (i_2 - 1)
 g0 (v13,b3,b4,(b5.set (v6.toNat) v9).set (v10.toNat) v12,()))))))) (let v14:Int:=qEq .i64 (i_2 - 1)
 g0 (v14,b3,b4,b5.set (v6.toNat) v9,()))))))))))) (some b5)
def Jp (n:Nat) (x:List (Bool)):Option (List (Int)) :=let a_0:=x
 fix (zO n) n (255,a_0,[0,0,0,0],[0,0,0,0],())
def Bf (n:Nat) (g0:Int×List (Int)×List (Bool)×List (Bool)×Unit->Option (List (Bool))) (x1:Int×List (Int)×List (Bool)×List (Bool)×Unit):Option (List (Bool)) :=let i_2:=x1.1
 let b3:=x1.2.1
 let b4:=x1.2.2.1
 let b5:=x1.2.2.2.1
 br (decide (i_2 < 256)) (chk ((!decide (64 = 0))) (let v6:Int:=qEq .i64 (Int.tdiv i_2 64)
 chk (inB v6 4) (chk (decide (v6.toNat < 4)) (let v7:Int:=b3.getD (v6.toNat) (Ty.dflt (.int .u64))
 chk ((!decide (2 = 0))) (chk (inB i_2 256) (chk (decide (i_2.toNat < 256)) (chk ((!decide (64 = 0))) (let v8:Int:=qEq .i64 (Int.tdiv i_2 64)
 chk ((!decide (64 = 0))) (let v9:Int:=qEq .i64 (Int.tdiv i_2 64)
 chk (inB v9 4) (chk (decide (v9.toNat < 4)) (let v10:Int:=b3.getD (v9.toNat) (Ty.dflt (.int .u64))
 chk ((!decide (2 = 0))) (let v11:Int:=qEq .u64 (Int.tdiv v10 2)
 chk (inB v8 4) (chk (decide (v8.toNat < 4)) (let v12:Int:=qEq .i64 (i_2+1)
 g0 (v12,b3.set (v8.toNat) v11,b4,b5.set (i_2.toNat) ((Int.tmod v7 2)==1),()))))))))))))))) (some b5)
def Nn (n:Nat) (x:List (Int)):Option (List (Bool)) :=let w_0:=x
 fix (Bf n) n (0,w_0,(qAf 256 false),(qAf 256 false),())
end Go.Dec
