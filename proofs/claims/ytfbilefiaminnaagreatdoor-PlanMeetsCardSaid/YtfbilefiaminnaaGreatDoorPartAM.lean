/- Part of a proof over this seat: a library of my own, and what it says of this seat. No statement is proved here. -/
import Derived.Test.YtfbilefiaminnaaGreatDoorPartAK
import Derived.Test.YtfbilefiaminnaaGreatDoorPartAL
namespace Go.Dec
set_option linter.unusedVariables false
abbrev bA:Ty:=.pair (.int .i64) (.pair (.arr 4 (.int .u64)) (.pair (.int .i64) (.pair (.int .i64) (.pair (.int .i64) (.pair (.int .i64) (.pair (.int .i64) .unit))))))
abbrev oF:Ty:=.pair .str (.pair (.int .i64) .unit)
abbrev yUi:Ty:=.pair (.int .i64) (.pair (.int .i64) .unit)
abbrev Ic:Ty:=.pair .str (.pair (.int .i64) (.pair (.slice bA) (.pair (.int .i64) (.pair (.arr 10 .bool) .unit))))
abbrev NdT:Type:=Int × List (Int) × Int × Int × Int × Int × Int × Unit
abbrev jM:Type:=List UInt8 × Int × Int × List (Bool) × List (NdT) × Unit
abbrev xX:Type:=Sum (Int × jM) (Int × Int × jM)
def iB (n:Nat) (x:List UInt8×List UInt8):Option (Bool) :=let s_0:=x.1
 let uI:=x.2
 br (decide ((s_0.length:Int)≥(uI.length:Int))) (chk ((decide (0<=(uI.length:Int))&&decide ((uI.length:Int)<=(s_0.length:Int)))) (let v1:List UInt8:=s_0.take (uI.length:Int).toNat
 some (v1==uI))) (some false)
def strings_HasPrefix (n:Nat) (x:List UInt8×List UInt8):Option (Bool) :=let s_0:=x.1
 let uI:=x.2
 ob (iB n (s_0,uI)) fun y1 =>some y1
def bF (n:Nat) (x:List UInt8×jM):Option (Bool×jM) :=let t_1:=x.1
 let s2:=x.2.1
 let at3:=x.2.2.1
 let gM:=x.2.2.2.1
 let gN:=x.2.2.2.2.1
 let bX:=x.2.2.2.2.2.1
 chk ((decide (0<=at3)&&decide (at3<=(s2.length:Int)))) (ob (strings_HasPrefix n (s2.drop at3.toNat,t_1)) fun y7 =>some (y7,s2,at3,gM,gN,bX,()))
def dQ (n:Nat) (x:List UInt8×jM):Option (Bool×jM) :=let t_1:=x.1
 let s2:=x.2.1
 let at3:=x.2.2.1
 let gM:=x.2.2.2.1
 let gN:=x.2.2.2.2.1
 let bX:=x.2.2.2.2.2.1
 ob (bF n (t_1,s2,at3,gM,gN,bX,())) fun y7 =>br (!y7.1) (some (false,y7.2.1,y7.2.2.1,y7.2.2.2.1,y7.2.2.2.2.1,y7.2.2.2.2.2.1,())) (let v8:Int:=IntKind.wrap .i64 (y7.2.2.1+(t_1.length:Int))
 some (true,y7.2.1,v8,y7.2.2.2.1,y7.2.2.2.2.1,y7.2.2.2.2.2.1,()))
def dG (n:Nat) (x:Int×List (Int)×Int×Int×Int×Int×Int×jM):Option (Int×jM) :=let n_1:=x.1
 let n_2:=x.2.1
 let n_3:=x.2.2.1
 let n_4:=x.2.2.2.1
 let n_5:=x.2.2.2.2.1
 let n_6:=x.2.2.2.2.2.1
 let n_7:=x.2.2.2.2.2.2.1
 let s8:=x.2.2.2.2.2.2.2.1
 let at9:=x.2.2.2.2.2.2.2.2.1
 let zD:=x.2.2.2.2.2.2.2.2.2.1
 let zF:=x.2.2.2.2.2.2.2.2.2.2.1
 let Iw:=x.2.2.2.2.2.2.2.2.2.2.2.1
 chk (Nat.ble ((Iw.length+([(n_1,(n_2,(n_3,(n_4,(n_5,(n_6,(n_7,())))))))]:List (NdT)).length) * 80) room) (let r13:List (NdT):=Iw++[(n_1,(n_2,(n_3,(n_4,(n_5,(n_6,(n_7,())))))))]
 let v14:Int:=((r13.length:Nat):Int)
 let v15:Int:=IntKind.wrap .i64 (v14 - 1)
 some (v15,s8,at9,zD,zF,r13,()))
def tQ (n:Nat) (x:jM):Option (Bool×jM) :=let s1:=x.1
 let at2:=x.2.1
 let zBl:=x.2.2.1
 let zBm:=x.2.2.2.1
 let Ji:=x.2.2.2.2.1
 br (at2==(s1.length:Int)) (some (true,s1,at2,zBl,zBm,Ji,())) (ob (bF n ([92,41],s1,at2,zBl,zBm,Ji,())) fun y6 =>some (y6.1,y6.2.1,y6.2.2.1,y6.2.2.2.1,y6.2.2.2.2.1,y6.2.2.2.2.2.1,()))
def zXd (n:Nat) (g0:Int×List (Int)×List (Int)×Unit->Option (List (Int))) (x1:Int×List (Int)×List (Int)×Unit):Option (List (Int)) :=let zHn:=x1.1
 let b3:=x1.2.1
 let b4:=x1.2.2.1
 br (decide (zHn < 4)) (chk (inB zHn 4) (chk (decide (zHn.toNat < 4)) (let v5:Int:=b3.getD (zHn.toNat) (Ty.dflt (.int .u64))
 let v6:Int:=gG .u64 .xor 18446744073709551615 v5
 chk (inB zHn 4) (chk (decide (zHn.toNat < 4)) (let v7:Int:=IntKind.wrap .i64 (zHn+1)
 g0 (v7,b3.set (zHn.toNat) v6,b4,())))))) (some b3)
def Vf (n:Nat) (x:List (Int)):Option (List (Int)) :=let s_0:=x
 fix (zXd n) n (0,s_0,[0,0,0,0],())
def dZ (n:Nat) (x:List (Int)×jM):Option (Int×jM) :=let s_1:=x.1
 let s2:=x.2.1
 let at3:=x.2.2.1
 let gM:=x.2.2.2.1
 let gN:=x.2.2.2.2.1
 let bX:=x.2.2.2.2.2.1
 ob (dG n (1,s_1,0,0,0,0,0,s2,at3,gM,gN,bX,())) fun y7 =>some (y7.1,y7.2.1,y7.2.2.1,y7.2.2.2.1,y7.2.2.2.2.1,y7.2.2.2.2.2.1,())
def gD (n:Nat) (x:List UInt8×List UInt8×Int×Unit):Option (Bool×List UInt8×Int×Unit) :=let t_1:=x.1
 let s2:=x.2.1
 let at3:=x.2.2.1
 chk ((decide (0<=at3)&&decide (at3<=(s2.length:Int)))) (ob (strings_HasPrefix n (s2.drop at3.toNat,t_1)) fun y4 =>some (y4,s2,at3,()))
def fM (n:Nat) (x:List UInt8×List UInt8×Int×Unit):Option (Bool×List UInt8×Int×Unit) :=let t_1:=x.1
 let s2:=x.2.1
 let at3:=x.2.2.1
 ob (gD n (t_1,s2,at3,())) fun y4 =>br (!y4.1) (some (false,y4.2.1,y4.2.2.1,())) (let v5:Int:=IntKind.wrap .i64 (y4.2.2.1+(t_1.length:Int))
 some (true,y4.2.1,v5,()))
def bU (_n:Nat) (x:List UInt8×Int×Unit):Option (Sum (List UInt8×Int×Unit) (Int×Int×List UInt8×Int×Unit)):=some (.inr (42,0,x))
def xA (n:Nat) (g0:Int×Int×List (Int)×Unit->Option (List (Int))) (x1:Int×Int×List (Int)×Unit):Option (List (Int)) :=let b_2:=x1.1
 let i_3:=x1.2.1
 let b4:=x1.2.2.1
 br (decide (i_3<=(IntKind.wrap .i64 b_2))) (chk (decide (0<=6)) (chk (inB (Ca .i64 i_3 6) 4) (chk (decide ((Ca .i64 i_3 6).toNat < 4)) (let v5:Int:=b4.getD ((Ca .i64 i_3 6).toNat) (Ty.dflt (.int .u64))
 chk (decide (0<=gG .i64 .and i_3 63)) (let v6:Int:=zGm .u64 1 (gG .i64 .and i_3 63)
 chk (inB (Ca .i64 i_3 6) 4) (chk (decide ((Ca .i64 i_3 6).toNat < 4)) (let v7:Int:=IntKind.wrap .i64 (i_3+1)
 g0 (b_2,v7,b4.set ((Ca .i64 i_3 6).toNat) (gG .u64 .or v5 v6),())))))))) (some b4)
def dW (n:Nat) (x:Int×Int):Option (List (Int)) :=let a_0:=x.1
 let b_1:=x.2
 fix (xA n) n (b_1,IntKind.wrap .i64 a_0,[0,0,0,0],())
def zHo (n:Nat) (g0:List (List (Int))×Int×Int×List (Int)×Unit->Option (List (Int))) (g1:List (List (Int))×Int×Int×Int×List (Int)×List (Int)×Unit->Option (List (Int))) (x7:List (List (Int))×Int×Int×Int×List (Int)×List (Int)×Unit):Option (List (Int)) :=let yYw:=x7.1
 let yYx:=x7.2.1
 let yUj:=x7.2.2.1
 let Dx:=x7.2.2.2.1
 let b12:=x7.2.2.2.2.1
 let b13:=x7.2.2.2.2.2.1
 br (decide (Dx < 4)) (chk (inB Dx 4) (chk (decide (Dx.toNat < 4)) (let v14:Int:=b12.getD (Dx.toNat) (Ty.dflt (.int .u64))
 chk (inB Dx 4) (chk (decide (Dx.toNat < 4)) (let v15:Int:=b13.getD (Dx.toNat) (Ty.dflt (.int .u64))
 chk (inB Dx 4) (chk (decide (Dx.toNat < 4)) (let v16:Int:=IntKind.wrap .i64 (Dx+1)
 g1 (yYw,yYx,yUj,v16,b12.set (Dx.toNat) (gG .u64 .or v14 v15),b13,())))))))) (let v17:Int:=IntKind.wrap .i64 (yUj+1)
 g0 (yYw,yYx,v17,b12,()))
def Lf (n:Nat) (g0:List (List (Int))×Int×Int×List (Int)×Unit->Option (List (Int))) (x1:List (List (Int))×Int×Int×List (Int)×Unit):Option (List (Int)) :=let yRi:=x1.1
 let yYy:=x1.2.1
 let yJo:=x1.2.2.1
 let b5:=x1.2.2.2.1
 br (decide (yJo<yYy)) (chk (inB yJo yRi.length) (let v6:List (Int):=aV (Ty.dflt (.arr 4 (.int .u64))) yRi yJo
 fix (zHo n g0) n (yRi,yYy,yJo,0,b5,v6,()))) (some b5)
def vD (n:Nat) (x:List (List (Int))):Option (List (Int)) :=let l_0:=x
 fix (Lf n) n (l_0,(l_0.length:Int),0,[0,0,0,0],())
def Lg (n:Nat) (g0:List UInt8×Int×Int×List (Int)×Unit->Option (List (Int))) (x1:List UInt8×Int×Int×List (Int)×Unit):Option (List (Int)) :=let s_2:=x1.1
 let zSz:=x1.2.1
 let zEb:=x1.2.2.1
 let b5:=x1.2.2.2.1
 br (decide (zEb<zSz)) (chk (inB zEb s_2.length) (let v6:Int:=((aV 0 s_2 zEb).toNat:Int)
 chk (decide (0<=6)) (chk (inB (Ca .u8 v6 6) 4) (chk (decide ((Ca .u8 v6 6).toNat < 4)) (let v7:Int:=b5.getD ((Ca .u8 v6 6).toNat) (Ty.dflt (.int .u64))
 chk (inB zEb s_2.length) (let v8:Int:=((aV 0 s_2 zEb).toNat:Int)
 chk (decide (0<=gG .u8 .and v8 63)) (let v9:Int:=zGm .u64 1 (gG .u8 .and v8 63)
 chk (inB (Ca .u8 v6 6) 4) (chk (decide ((Ca .u8 v6 6).toNat < 4)) (let v10:Int:=IntKind.wrap .i64 (zEb+1)
 g0 (s_2,zSz,v10,b5.set ((Ca .u8 v6 6).toNat) (gG .u64 .or v7 v9),())))))))))) (some b5)
def xB (n:Nat) (x:List UInt8):Option (List (Int)) :=let s_0:=x
 fix (Lg n) n (s_0,(s_0.length:Int),0,[0,0,0,0],())
def Qq (n:Nat) (x:List UInt8):Option (List (Int)×Bool) :=let jT:=x
 ob (dW n (65,90)) fun y1 =>ob (dW n (97,122)) fun y2 =>ob (dW n (48,57)) fun y3 =>br (jT==[117,112,112,101,114]) (some (y1,true)) (br (jT==[108,111,119,101,114]) (some (y2,true)) (br (jT==[97,108,112,104,97]) (ob (vD n [y1,y2]) fun y4 =>some (y4,true)) (br (jT==[100,105,103,105,116]) (some (y3,true)) (br (jT==[97,108,110,117,109]) (ob (vD n [y1,y2,y3]) fun y5 =>some (y5,true)) (br (jT==[120,100,105,103,105,116]) (ob (dW n (65,70)) fun y6 =>ob (dW n (97,102)) fun y7 =>ob (vD n [y3,y6,y7]) fun y8 =>some (y8,true)) (br (jT==[98,108,97,110,107]) (ob (xB n [32,9]) fun y9 =>some (y9,true)) (br (jT==[115,112,97,99,101]) (ob (xB n [32,9,10,11,12,13]) fun y10 =>some (y10,true)) (br (jT==[99,110,116,114,108]) (ob (dW n (0,31)) fun y11 =>ob (xB n [127]) fun y12 =>ob (vD n [y11,y12]) fun y13 =>some (y13,true)) (br (jT==[103,114,97,112,104]) (ob (dW n (33,126)) fun y14 =>some (y14,true)) (br (jT==[112,114,105,110,116]) (ob (dW n (32,126)) fun y15 =>some (y15,true)) (br (jT==[112,117,110,99,116]) (ob (dW n (33,47)) fun y16 =>ob (dW n (58,64)) fun y17 =>ob (dW n (91,96)) fun y18 =>ob (dW n (123,126)) fun y19 =>ob (vD n [y16,y17,y18,y19]) fun y20 =>some (y20,true)) (some ([0,0,0,0],false)))))))))))))
def xY (n:Nat) (x21:List UInt8×List UInt8×Int×Unit):Option (Sum (Int×Bool×List UInt8×Int×Unit) (Int×Int×List UInt8×Int×Unit)) :=let yWh:=x21.1
 let s23:=x21.2.1
 let yRj:=x21.2.2.1
 chk (inB yRj s23.length) (let v25:Int:=((aV 0 s23 yRj).toNat:Int)
 let v26:Int:=IntKind.wrap .i64 (yRj+3)
 some (.inl (v25,(yWh==[46]),s23,v26,())))
def mZ (n:Nat) (x41:List UInt8×Int×Unit):Option (Sum (Int×Bool×List UInt8×Int×Unit) (Int×Int×List UInt8×Int×Unit)) :=let s42:=x41.1
 let xDw:=x41.2.1
 let v44:Int:=IntKind.wrap .i64 (xDw+1)
 let v45:Int:=IntKind.wrap .i64 (v44 - 1)
 chk (inB v45 s42.length) (let v46:Int:=((aV 0 s42 v45).toNat:Int)
 some (.inl (v46,true,s42,v44,())))
def jW (n:Nat) (x30:Bool×Bool×List UInt8×Int×Unit):Option (Sum (Int×Bool×List UInt8×Int×Unit) (Int×Int×List UInt8×Int×Unit)) :=let yRk:=x30.1
 let yFx:=x30.2.1
 let s33:=x30.2.2.1
 let yAj:=x30.2.2.2.1
 br (yAj==(s33.length:Int)) (ob2 (bU n (s33,yAj,())) (fun y35 =>none) (fun y35 =>some (.inr (y35.1,y35.2.1,y35.2.2.1,y35.2.2.2.1,())))) (ob (gD n ([91,58],s33,yAj,())) fun y36 =>br y36.1 (ob2 (bU n (y36.2.1,y36.2.2.1,())) (fun y37 =>none) (fun y37 =>some (.inr (y37.1,y37.2.1,y37.2.2.1,y37.2.2.2.1,())))) (ob (gD n ([93],y36.2.1,y36.2.2.1,())) fun y38 =>br y38.1 (br (!yRk) (ob2 (bU n (y38.2.1,y38.2.2.1,())) (fun y39 =>none) (fun y39 =>some (.inr (y39.1,y39.2.1,y39.2.2.1,y39.2.2.2.1,())))) (br yFx (ob2 (bU n (y38.2.1,y38.2.2.1,())) (fun y40 =>none) (fun y40 =>some (.inr (y40.1,y40.2.1,y40.2.2.1,y40.2.2.2.1,())))) (jn (mZ n) (y38.2.1,y38.2.2.1,())))) (br yFx (ob2 (bU n (y38.2.1,y38.2.2.1,())) (fun y47 =>none) (fun y47 =>some (.inr (y47.1,y47.2.1,y47.2.2.1,y47.2.2.2.1,())))) (jn (mZ n) (y38.2.1,y38.2.2.1,())))))
def rQ (n:Nat) (g0:Bool×Bool×Int×Int×List UInt8×Int×List (List UInt8)×Unit->Option (Sum (Int×Bool×List UInt8×Int×Unit) (Int×Int×List UInt8×Int×Unit))) (x6:Bool×Bool×Int×Int×List UInt8×Int×List (List UInt8)×Unit):Option (Sum (Int×Bool×List UInt8×Int×Unit) (Int×Int×List UInt8×Int×Unit)) :=let Vg:=x6.1
 let yNh:=x6.2.1
 let yUk:=x6.2.2.1
 let zHp:=x6.2.2.2.1
 let s11:=x6.2.2.2.2.1
 let yAk:=x6.2.2.2.2.2.1
 let Zb:=x6.2.2.2.2.2.2.1
 br (decide (zHp<yUk)) (chk ((inB zHp (Zb.length)&&decide (0+(Zb.length)<=Zb.length))) (chk (decide (0+zHp.toNat<Zb.length)) (let v14:List UInt8:=Zb.getD (0+zHp.toNat) (Ty.dflt .str)
 chk (decide ([91].length+v14.length<=qK)) (ob (fM n ([91]++v14,s11,yAk,())) fun y15 =>br (!y15.1) (let v16:Int:=IntKind.wrap .i64 (zHp+1)
 g0 (Vg,yNh,yUk,v16,y15.2.1,y15.2.2.1,Zb,())) (br ((y15.2.1.length:Int)==y15.2.2.1) (ob2 (bU n (y15.2.1,y15.2.2.1,())) (fun y17 =>none) (fun y17 =>some (.inr (y17.1,y17.2.1,y17.2.2.1,y17.2.2.2.1,())))) (let v18:Int:=IntKind.wrap .i64 (y15.2.2.1+1)
 chk ((decide (0<=v18)&&decide (v18<=(y15.2.1.length:Int)))) (chk (decide (v14.length+([93]:List UInt8).length<=qK)) (ob (strings_HasPrefix n (y15.2.1.drop v18.toNat,v14++[93])) fun y19 =>br (!y19) (ob2 (bU n (y15.2.1,y15.2.2.1,())) (fun y20 =>none) (fun y20 =>some (.inr (y20.1,y20.2.1,y20.2.2.1,y20.2.2.2.1,())))) (jn (xY n) (v14,y15.2.1,y15.2.2.1,())))))))))) (ob (fM n ([92,110],s11,yAk,())) fun y27 =>br y27.1 (some (.inl (10,true,y27.2.1,y27.2.2.1,()))) (ob (gD n ([45],y27.2.1,y27.2.2.1,())) fun y28 =>br y28.1 (br (!Vg) (br (!yNh) (ob (gD n ([45,93],y28.2.1,y28.2.2.1,())) fun y29 =>jn (jW n) (Vg,(!y29.1),y29.2.1,y29.2.2.1,())) (jn (jW n) (Vg,false,y28.2.1,y28.2.2.1,()))) (jn (jW n) (Vg,false,y28.2.1,y28.2.2.1,()))) (jn (jW n) (Vg,false,y28.2.1,y28.2.2.1,()))))
def rC (n:Nat) (x:Bool×Bool×List UInt8×Int×Unit):Option (Sum (Int×Bool×List UInt8×Int×Unit) (Int×Int×List UInt8×Int×Unit)) :=let Kc:=x.1
 let yAl:=x.2.1
 let s3:=x.2.2.1
 let at4:=x.2.2.2.1
 let v5:Int:=(([[46],[61]].length:Nat):Int)
 fix (rQ n) n (Kc,yAl,v5,0,s3,at4,[[46],[61]],())
def tC (n:Nat) (x:Bool×List UInt8×Int×Unit):Option (Sum (List (Int)×List UInt8×Int×Unit) (Int×Int×List UInt8×Int×Unit)) :=let Kc:=x.1
 let s2:=x.2.1
 let at3:=x.2.2.1
 ob (fM n ([91,58],s2,at3,())) fun y4 =>br y4.1 (chk ((decide (0<=y4.2.2.1)&&decide (y4.2.2.1<=(y4.2.1.length:Int)))) (let v5:List UInt8:=y4.2.1.drop y4.2.2.1.toNat
 ob (strings_Cut n (v5,[58,93])) fun y6 =>let v7:Int:=IntKind.wrap .i64 (y4.2.2.1+(y6.1.length:Int))
 ob (Qq n y6.1) fun y8 =>br (!y8.2) (ob2 (bU n (y4.2.1,v7,())) (fun y9 =>none) (fun y9 =>some (.inr (y9.1,y9.2.1,y9.2.2.1,y9.2.2.2.1,())))) (ob (fM n ([58,93],y4.2.1,v7,())) fun y10 =>br (!y10.1) (ob2 (bU n (y10.2.1,y10.2.2.1,())) (fun y11 =>none) (fun y11 =>some (.inr (y11.1,y11.2.1,y11.2.2.1,y11.2.2.2.1,())))) (some (.inl (y8.1,y10.2.1,y10.2.2.1,())))))) (ob2 (rC n (Kc,false,y4.2.1,y4.2.2.1,())) (fun y12 =>ob (gD n ([45],y12.2.2.1,y12.2.2.2.1,())) fun y13 =>br (!y13.1) (ob (dW n (y12.1,y12.1)) fun y14 =>some (.inl (y14,y13.2.1,y13.2.2.1,()))) (ob (gD n ([45,93],y13.2.1,y13.2.2.1,())) fun y15 =>br y15.1 (ob (dW n (y12.1,y12.1)) fun y16 =>some (.inl (y16,y15.2.1,y15.2.2.1,()))) (let v17:Int:=IntKind.wrap .i64 (y15.2.2.1+1)
 br (v17==(y15.2.1.length:Int)) (ob (dW n (y12.1,y12.1)) fun y18 =>some (.inl (y18,y15.2.1,y15.2.2.1,()))) (let v19:Int:=IntKind.wrap .i64 (y15.2.2.1+1)
 ob2 (rC n (false,true,y15.2.1,v19,())) (fun y20 =>br (!y12.2.1) (ob2 (bU n (y20.2.2.1,y20.2.2.2.1,())) (fun y21 =>none) (fun y21 =>some (.inr (y21.1,y21.2.1,y21.2.2.1,y21.2.2.2.1,())))) (br (!y20.2.1) (ob2 (bU n (y20.2.2.1,y20.2.2.2.1,())) (fun y22 =>none) (fun y22 =>some (.inr (y22.1,y22.2.1,y22.2.2.1,y22.2.2.2.1,())))) (br (decide (y20.1<y12.1)) (ob2 (bU n (y20.2.2.1,y20.2.2.2.1,())) (fun y23 =>none) (fun y23 =>some (.inr (y23.1,y23.2.1,y23.2.2.1,y23.2.2.2.1,())))) (ob (dW n (y12.1,y20.1)) fun y24 =>some (.inl (y24,y20.2.2.1,y20.2.2.2.1,())))))) (fun y20 =>some (.inr (y20.1,y20.2.1,y20.2.2.1,y20.2.2.2.1,()))))))) (fun y12 =>some (.inr (y12.1,y12.2.1,y12.2.2.1,y12.2.2.2.1,()))))
def qM (n:Nat) (g0:Bool×Bool×List (Int)×List UInt8×Int×Unit->Option (Sum (List (Int)×List UInt8×Int×Unit) (Int×Int×List (Int)×List UInt8×Int×Unit))) (x7:Bool×Bool×List (Int)×List UInt8×Int×Unit):Option (Sum (List (Int)×List UInt8×Int×Unit) (Int×Int×List (Int)×List UInt8×Int×Unit)) :=let yJp:=x7.1
 let zTa:=x7.2.1
 let b10:=x7.2.2.1
 let s11:=x7.2.2.2.1
 let yAk:=x7.2.2.2.2.1
 br zTa (ob2 (tC n (zTa,s11,yAk,())) (fun y13 =>ob (vD n [b10,y13.1]) fun y14 =>g0 (yJp,false,y14,y13.2.1,y13.2.2.1,())) (fun y13 =>some (.inr (y13.1,y13.2.1,b10,y13.2.2.1,y13.2.2.2.1,())))) (ob (fM n ([93],s11,yAk,())) fun y15 =>br (!y15.1) (ob2 (tC n (zTa,y15.2.1,y15.2.2.1,())) (fun y16 =>ob (vD n [b10,y16.1]) fun y17 =>g0 (yJp,false,y17,y16.2.1,y16.2.2.1,())) (fun y16 =>some (.inr (y16.1,y16.2.1,b10,y16.2.2.1,y16.2.2.2.1,())))) (br yJp (ob (Vf n b10) fun y18 =>br (Ty.beq (.arr 4 (.int .u64)) y18 ([0,0,0,0])) (ob2 (bU n (y15.2.1,y15.2.2.1,())) (fun y19 =>none) (fun y19 =>some (.inr (y19.1,y19.2.1,y18,y19.2.2.1,y19.2.2.2.1,())))) (some (.inl (y18,y15.2.1,y15.2.2.1,())))) (br (Ty.beq (.arr 4 (.int .u64)) b10 ([0,0,0,0])) (ob2 (bU n (y15.2.1,y15.2.2.1,())) (fun y20 =>none) (fun y20 =>some (.inr (y20.1,y20.2.1,b10,y20.2.2.1,y20.2.2.2.1,())))) (some (.inl (b10,y15.2.1,y15.2.2.1,()))))))
def qB (n:Nat) (x:List (Int)×List UInt8×Int×Unit):Option (Sum (List (Int)×List UInt8×Int×Unit) (Int×Int×List (Int)×List UInt8×Int×Unit)) :=let b1:=x.1
 let s2:=x.2.1
 let at3:=x.2.2.1
 ob (fM n ([91],s2,at3,())) fun y4 =>br (!y4.1) (ob2 (bU n (y4.2.1,y4.2.2.1,())) (fun y5 =>none) (fun y5 =>some (.inr (y5.1,y5.2.1,b1,y5.2.2.1,y5.2.2.2.1,())))) (ob (fM n ([94],y4.2.1,y4.2.2.1,())) fun y6 =>fix (qM n) n (y6.1,true,b1,y6.2.1,y6.2.2.1,()))
def iN (n:Nat) (x:List (Int)×List UInt8×Int×Unit):Option (Int×Int×List (Int)×List UInt8×Int×Unit):=ob2 (qB n x) (fun y=>some (0,0,y)) (fun y=>some y)
def xZ (n:Nat) (x:List UInt8):Option (List (Int)×Int×Int) :=let s_0:=x
 ob (iN n ([0,0,0,0],s_0,0,())) fun y1 =>br (y1.1 != 0) (some ([0,0,0,0],0,y1.1)) (some (y1.2.2.1,y1.2.2.2.2.1,0))
def aL (_n:Nat) (x:Int×Int×jM):Option (Sum (jM) (Int×Int×jM)):=some (.inr x)
def qH (n:Nat) (g0:Int×jM->Option (Int×jM)) (x6:Int×jM):Option (Int×jM) :=let i_7:=x6.1
 let s8:=x6.2.1
 let at9:=x6.2.2.1
 let zD:=x6.2.2.2.1
 let zF:=x6.2.2.2.2.1
 let Iw:=x6.2.2.2.2.2.1
 br (decide (i_7<(s8.length:Int))) (let v13:Int:=IntKind.wrap .i64 (at9+3)
 br (decide (i_7<v13)) (chk (inB i_7 s8.length) (let v14:Int:=((aV 0 s8 i_7).toNat:Int)
 br (decide (v14≥48)) (chk (inB i_7 s8.length) (let v15:Int:=((aV 0 s8 i_7).toNat:Int)
 br (decide (v15<=57)) (let v16:Int:=IntKind.wrap .i64 (i_7+1)
 g0 (v16,s8,at9,zD,zF,Iw,())) (chk ((decide (0<=i_7)&&decide (i_7<=(s8.length:Int))&&(decide (0<=at9)&&decide (at9<=i_7)))) (let v17:List UInt8:=(s8.take i_7.toNat).drop at9.toNat
 ob (strconv_Atoi n v17) fun y18 =>br (!(!y18.2)) (some ((-1),s8,i_7,zD,zF,Iw,())) (some (y18.1,s8,i_7,zD,zF,Iw,())))))) (chk ((decide (0<=i_7)&&decide (i_7<=(s8.length:Int))&&(decide (0<=at9)&&decide (at9<=i_7)))) (let v19:List UInt8:=(s8.take i_7.toNat).drop at9.toNat
 ob (strconv_Atoi n v19) fun y20 =>br (!(!y20.2)) (some ((-1),s8,i_7,zD,zF,Iw,())) (some (y20.1,s8,i_7,zD,zF,Iw,())))))) (chk ((decide (0<=i_7)&&decide (i_7<=(s8.length:Int))&&(decide (0<=at9)&&decide (at9<=i_7)))) (let v21:List UInt8:=(s8.take i_7.toNat).drop at9.toNat
 ob (strconv_Atoi n v21) fun y22 =>br (!(!y22.2)) (some ((-1),s8,i_7,zD,zF,Iw,())) (some (y22.1,s8,i_7,zD,zF,Iw,()))))) (chk ((decide (0<=i_7)&&decide (i_7<=(s8.length:Int))&&(decide (0<=at9)&&decide (at9<=i_7)))) (let v23:List UInt8:=(s8.take i_7.toNat).drop at9.toNat
 ob (strconv_Atoi n v23) fun y24 =>br (!(!y24.2)) (some ((-1),s8,i_7,zD,zF,Iw,())) (some (y24.1,s8,i_7,zD,zF,Iw,()))))
def pX (n:Nat) (x:jM):Option (Int×jM) :=let s1:=x.1
 let at2:=x.2.1
 let zBl:=x.2.2.1
 let zBm:=x.2.2.2.1
 let Ji:=x.2.2.2.2.1
 fix (qH n) n (at2,s1,at2,zBl,zBm,Ji,())
def vE(n:Nat)(x:Int × jM):Option xX :=
 let zKj:Int:=x.1
 let s2:List UInt8:=x.2.1
 let at3:Int:=x.2.2.1
 let gM:Int:=x.2.2.2.1
 let gN:List (Bool):=x.2.2.2.2.1
 let bX:List (NdT):=x.2.2.2.2.2.1
 ob (dQ n ([42],s2,at3,gM,gN,bX,())) λy7 =>
 br y7.1 (
  ob (dG n (6,[0,0,0,0],zKj,0,0,(-1),0,y7.2.1,y7.2.2.1,y7.2.2.2.1,y7.2.2.2.2.1,y7.2.2.2.2.2.1,())) λy8 =>
  ob (bF n ([42],y8.2.1,y8.2.2.1,y8.2.2.2.1,y8.2.2.2.2.1,y8.2.2.2.2.2.1,())) λy9 =>
  br y9.1 (
   ob2 (aL n (43,y9.2.2.1,y9.2.1,y9.2.2.1,y9.2.2.2.1,y9.2.2.2.2.1,y9.2.2.2.2.2.1,())) (λy10 =>
    none) (λy10 =>
    some (.inr (y10.1,y10.2.1,y10.2.2.1,y10.2.2.2.1,y10.2.2.2.2.1,y10.2.2.2.2.2.1,y10.2.2.2.2.2.2.1,())))) (
   ob (bF n ([92,123],y9.2.1,y9.2.2.1,y9.2.2.2.1,y9.2.2.2.2.1,y9.2.2.2.2.2.1,())) λy11 =>
   br y11.1 (
    ob2 (aL n (43,y11.2.2.1,y11.2.1,y11.2.2.1,y11.2.2.2.1,y11.2.2.2.2.1,y11.2.2.2.2.2.1,())) (λy12 =>
     none) (λy12 =>
     some (.inr (y12.1,y12.2.1,y12.2.2.1,y12.2.2.2.1,y12.2.2.2.2.1,y12.2.2.2.2.2.1,y12.2.2.2.2.2.2.1,())))) (
    some (.inl (y8.1,y11.2.1,y11.2.2.1,y11.2.2.2.1,y11.2.2.2.2.1,y11.2.2.2.2.2.1,()))))) (
  ob (dQ n ([92,123],y7.2.1,y7.2.2.1,y7.2.2.2.1,y7.2.2.2.2.1,y7.2.2.2.2.2.1,())) λy13 =>
  br (!y13.1) (
   some (.inl (zKj,y13.2.1,y13.2.2.1,y13.2.2.2.1,y13.2.2.2.2.1,y13.2.2.2.2.2.1,()))) (
   ob (pX n (y13.2.1,y13.2.2.1,y13.2.2.2.1,y13.2.2.2.2.1,y13.2.2.2.2.2.1,())) λy14 =>
   ob (dQ n ([44],y14.2.1,y14.2.2.1,y14.2.2.2.1,y14.2.2.2.2.1,y14.2.2.2.2.2.1,())) λy15 =>
   br y15.1 (
    ob (pX n (y15.2.1,y15.2.2.1,y15.2.2.2.1,y15.2.2.2.2.1,y15.2.2.2.2.2.1,())) λy16 =>
    br (y14.1==(-1)) (
     ob2 (aL n (43,at3,y16.2.1,y16.2.2.1,y16.2.2.2.1,y16.2.2.2.2.1,y16.2.2.2.2.2.1,())) (λy17 =>
      none) (λy17 =>
      some (.inr (y17.1,y17.2.1,y17.2.2.1,y17.2.2.2.1,y17.2.2.2.2.1,y17.2.2.2.2.2.1,y17.2.2.2.2.2.2.1,())))) (
     ob (dQ n ([92,125],y16.2.1,y16.2.2.1,y16.2.2.2.1,y16.2.2.2.2.1,y16.2.2.2.2.2.1,())) λy18 =>
     br (!y18.1) (
      ob2 (aL n (43,at3,y18.2.1,y18.2.2.1,y18.2.2.2.1,y18.2.2.2.2.1,y18.2.2.2.2.2.1,())) (λy19 =>
       none) (λy19 =>
       some (.inr (y19.1,y19.2.1,y19.2.2.1,y19.2.2.2.1,y19.2.2.2.2.1,y19.2.2.2.2.2.1,y19.2.2.2.2.2.2.1,())))) (
      br (decide (y14.1>255)) (
       ob2 (aL n (43,at3,y18.2.1,y18.2.2.1,y18.2.2.2.1,y18.2.2.2.2.1,y18.2.2.2.2.2.1,())) (λy20 =>
        none) (λy20 =>
        some (.inr (y20.1,y20.2.1,y20.2.2.1,y20.2.2.2.1,y20.2.2.2.2.1,y20.2.2.2.2.2.1,y20.2.2.2.2.2.2.1,())))) (
       br (decide (y16.1>255)) (
        ob2 (aL n (43,at3,y18.2.1,y18.2.2.1,y18.2.2.2.1,y18.2.2.2.2.1,y18.2.2.2.2.2.1,())) (λy21 =>
         none) (λy21 =>
         some (.inr (y21.1,y21.2.1,y21.2.2.1,y21.2.2.2.1,y21.2.2.2.2.1,y21.2.2.2.2.2.1,y21.2.2.2.2.2.2.1,())))) (
        br (y16.1 != (-1)) (
         let v22:Int:=if 1>y14.1 then 1 else y14.1
         br (decide (y16.1<v22)) (
          ob2 (aL n (43,at3,y18.2.1,y18.2.2.1,y18.2.2.2.1,y18.2.2.2.2.1,y18.2.2.2.2.2.1,())) (λy23 =>
           none) (λy23 =>
           some (.inr (y23.1,y23.2.1,y23.2.2.1,y23.2.2.2.1,y23.2.2.2.2.1,y23.2.2.2.2.2.1,y23.2.2.2.2.2.2.1,())))) (
          ob (dG n (6,[0,0,0,0],zKj,0,y14.1,y16.1,0,y18.2.1,y18.2.2.1,y18.2.2.2.1,y18.2.2.2.2.1,y18.2.2.2.2.2.1,())) λy24 =>
          ob (bF n ([42],y24.2.1,y24.2.2.1,y24.2.2.2.1,y24.2.2.2.2.1,y24.2.2.2.2.2.1,())) λy25 =>
          br y25.1 (
           ob2 (aL n (43,y25.2.2.1,y25.2.1,y25.2.2.1,y25.2.2.2.1,y25.2.2.2.2.1,y25.2.2.2.2.2.1,())) (λy26 =>
            none) (λy26 =>
            some (.inr (y26.1,y26.2.1,y26.2.2.1,y26.2.2.2.1,y26.2.2.2.2.1,y26.2.2.2.2.2.1,y26.2.2.2.2.2.2.1,())))) (
           ob (bF n ([92,123],y25.2.1,y25.2.2.1,y25.2.2.2.1,y25.2.2.2.2.1,y25.2.2.2.2.2.1,())) λy27 =>
           br y27.1 (
            ob2 (aL n (43,y27.2.2.1,y27.2.1,y27.2.2.1,y27.2.2.2.1,y27.2.2.2.2.1,y27.2.2.2.2.2.1,())) (λy28 =>
             none) (λy28 =>
             some (.inr (y28.1,y28.2.1,y28.2.2.1,y28.2.2.2.1,y28.2.2.2.2.1,y28.2.2.2.2.2.1,y28.2.2.2.2.2.2.1,())))) (
            some (.inl (y24.1,y27.2.1,y27.2.2.1,y27.2.2.2.1,y27.2.2.2.2.1,y27.2.2.2.2.2.1,())))))) (
         ob (dG n (6,[0,0,0,0],zKj,0,y14.1,y16.1,0,y18.2.1,y18.2.2.1,y18.2.2.2.1,y18.2.2.2.2.1,y18.2.2.2.2.2.1,())) λy29 =>
         ob (bF n ([42],y29.2.1,y29.2.2.1,y29.2.2.2.1,y29.2.2.2.2.1,y29.2.2.2.2.2.1,())) λy30 =>
         br y30.1 (
          ob2 (aL n (43,y30.2.2.1,y30.2.1,y30.2.2.1,y30.2.2.2.1,y30.2.2.2.2.1,y30.2.2.2.2.2.1,())) (λy31 =>
           none) (λy31 =>
           some (.inr (y31.1,y31.2.1,y31.2.2.1,y31.2.2.2.1,y31.2.2.2.2.1,y31.2.2.2.2.2.1,y31.2.2.2.2.2.2.1,())))) (
          ob (bF n ([92,123],y30.2.1,y30.2.2.1,y30.2.2.2.1,y30.2.2.2.2.1,y30.2.2.2.2.2.1,())) λy32 =>
          br y32.1 (
           ob2 (aL n (43,y32.2.2.1,y32.2.1,y32.2.2.1,y32.2.2.2.1,y32.2.2.2.2.1,y32.2.2.2.2.2.1,())) (λy33 =>
            none) (λy33 =>
            some (.inr (y33.1,y33.2.1,y33.2.2.1,y33.2.2.2.1,y33.2.2.2.2.1,y33.2.2.2.2.2.1,y33.2.2.2.2.2.2.1,())))) (
           some (.inl (y29.1,y32.2.1,y32.2.2.1,y32.2.2.2.1,y32.2.2.2.2.1,y32.2.2.2.2.2.1,())))))))))) (
    br (y14.1==(-1)) (
     ob2 (aL n (43,at3,y15.2.1,y15.2.2.1,y15.2.2.2.1,y15.2.2.2.2.1,y15.2.2.2.2.2.1,())) (λy34 =>
      none) (λy34 =>
      some (.inr (y34.1,y34.2.1,y34.2.2.1,y34.2.2.2.1,y34.2.2.2.2.1,y34.2.2.2.2.2.1,y34.2.2.2.2.2.2.1,())))) (
     ob (dQ n ([92,125],y15.2.1,y15.2.2.1,y15.2.2.2.1,y15.2.2.2.2.1,y15.2.2.2.2.2.1,())) λy35 =>
     br (!y35.1) (
      ob2 (aL n (43,at3,y35.2.1,y35.2.2.1,y35.2.2.2.1,y35.2.2.2.2.1,y35.2.2.2.2.2.1,())) (λy36 =>
       none) (λy36 =>
       some (.inr (y36.1,y36.2.1,y36.2.2.1,y36.2.2.2.1,y36.2.2.2.2.1,y36.2.2.2.2.2.1,y36.2.2.2.2.2.2.1,())))) (
      br (decide (y14.1>255)) (
       ob2 (aL n (43,at3,y35.2.1,y35.2.2.1,y35.2.2.2.1,y35.2.2.2.2.1,y35.2.2.2.2.2.1,())) (λy37 =>
        none) (λy37 =>
        some (.inr (y37.1,y37.2.1,y37.2.2.1,y37.2.2.2.1,y37.2.2.2.2.1,y37.2.2.2.2.2.1,y37.2.2.2.2.2.2.1,())))) (
       br (decide (y14.1>255)) (
        ob2 (aL n (43,at3,y35.2.1,y35.2.2.1,y35.2.2.2.1,y35.2.2.2.2.1,y35.2.2.2.2.2.1,())) (λy38 =>
         none) (λy38 =>
         some (.inr (y38.1,y38.2.1,y38.2.2.1,y38.2.2.2.1,y38.2.2.2.2.1,y38.2.2.2.2.2.1,y38.2.2.2.2.2.2.1,())))) (
        br (y14.1 != (-1)) (
         let v39:Int:=if 1>y14.1 then 1 else y14.1
         br (decide (y14.1<v39)) (
          ob2 (aL n (43,at3,y35.2.1,y35.2.2.1,y35.2.2.2.1,y35.2.2.2.2.1,y35.2.2.2.2.2.1,())) (λy40 =>
           none) (λy40 =>
           some (.inr (y40.1,y40.2.1,y40.2.2.1,y40.2.2.2.1,y40.2.2.2.2.1,y40.2.2.2.2.2.1,y40.2.2.2.2.2.2.1,())))) (
          ob (dG n (6,[0,0,0,0],zKj,0,y14.1,y14.1,0,y35.2.1,y35.2.2.1,y35.2.2.2.1,y35.2.2.2.2.1,y35.2.2.2.2.2.1,())) λy41 =>
          ob (bF n ([42],y41.2.1,y41.2.2.1,y41.2.2.2.1,y41.2.2.2.2.1,y41.2.2.2.2.2.1,())) λy42 =>
          br y42.1 (
           ob2 (aL n (43,y42.2.2.1,y42.2.1,y42.2.2.1,y42.2.2.2.1,y42.2.2.2.2.1,y42.2.2.2.2.2.1,())) (λy43 =>
            none) (λy43 =>
            some (.inr (y43.1,y43.2.1,y43.2.2.1,y43.2.2.2.1,y43.2.2.2.2.1,y43.2.2.2.2.2.1,y43.2.2.2.2.2.2.1,())))) (
           ob (bF n ([92,123],y42.2.1,y42.2.2.1,y42.2.2.2.1,y42.2.2.2.2.1,y42.2.2.2.2.2.1,())) λy44 =>
           br y44.1 (
            ob2 (aL n (43,y44.2.2.1,y44.2.1,y44.2.2.1,y44.2.2.2.1,y44.2.2.2.2.1,y44.2.2.2.2.2.1,())) (λy45 =>
             none) (λy45 =>
             some (.inr (y45.1,y45.2.1,y45.2.2.1,y45.2.2.2.1,y45.2.2.2.2.1,y45.2.2.2.2.2.1,y45.2.2.2.2.2.2.1,())))) (
            some (.inl (y41.1,y44.2.1,y44.2.2.1,y44.2.2.2.1,y44.2.2.2.2.1,y44.2.2.2.2.2.1,())))))) (
         ob (dG n (6,[0,0,0,0],zKj,0,y14.1,y14.1,0,y35.2.1,y35.2.2.1,y35.2.2.2.1,y35.2.2.2.2.1,y35.2.2.2.2.2.1,())) λy46 =>
         ob (bF n ([42],y46.2.1,y46.2.2.1,y46.2.2.2.1,y46.2.2.2.2.1,y46.2.2.2.2.2.1,())) λy47 =>
         br y47.1 (
          ob2 (aL n (43,y47.2.2.1,y47.2.1,y47.2.2.1,y47.2.2.2.1,y47.2.2.2.2.1,y47.2.2.2.2.2.1,())) (λy48 =>
           none) (λy48 =>
           some (.inr (y48.1,y48.2.1,y48.2.2.1,y48.2.2.2.1,y48.2.2.2.2.1,y48.2.2.2.2.2.1,y48.2.2.2.2.2.2.1,())))) (
          ob (bF n ([92,123],y47.2.1,y47.2.2.1,y47.2.2.2.1,y47.2.2.2.2.1,y47.2.2.2.2.2.1,())) λy49 =>
          br y49.1 (
           ob2 (aL n (43,y49.2.2.1,y49.2.1,y49.2.2.1,y49.2.2.2.1,y49.2.2.2.2.1,y49.2.2.2.2.2.1,())) (λy50 =>
            none) (λy50 =>
            some (.inr (y50.1,y50.2.1,y50.2.2.1,y50.2.2.2.1,y50.2.2.2.2.1,y50.2.2.2.2.2.1,y50.2.2.2.2.2.2.1,())))) (
           some (.inl (y46.1,y49.2.1,y49.2.2.1,y49.2.2.2.1,y49.2.2.2.2.1,y49.2.2.2.2.2.1,()))))))))))))
def vF (n:Nat) (aT:(jM)->Option xX) (x:Int×jM):Option xX :=let zTb:=x.1
 let s2:=x.2.1
 let at3:=x.2.2.1
 let gM:=x.2.2.2.1
 let gN:=x.2.2.2.2.1
 let bX:=x.2.2.2.2.2.1
 br (gM==9) (ob2 (aL n (41,zTb,s2,at3,gM,gN,bX,())) (fun y7 =>none) (fun y7 =>some (.inr (y7.1,y7.2.1,y7.2.2.1,y7.2.2.2.1,y7.2.2.2.2.1,y7.2.2.2.2.2.1,y7.2.2.2.2.2.2.1,())))) (let v8:Int:=IntKind.wrap .i64 (gM+1)
 ob2 (aT (s2,at3,v8,gN,bX,())) (fun y9 =>br (y9.1==(-1)) (ob2 (aL n (41,zTb,y9.2.1,y9.2.2.1,y9.2.2.2.1,y9.2.2.2.2.1,y9.2.2.2.2.2.1,())) (fun y10 =>none) (fun y10 =>some (.inr (y10.1,y10.2.1,y10.2.2.1,y10.2.2.2.1,y10.2.2.2.2.1,y10.2.2.2.2.2.1,y10.2.2.2.2.2.2.1,())))) (ob (dQ n ([92,41],y9.2.1,y9.2.2.1,y9.2.2.2.1,y9.2.2.2.2.1,y9.2.2.2.2.2.1,())) fun y11 =>br (!y11.1) (ob2 (aL n (41,zTb,y11.2.1,y11.2.2.1,y11.2.2.2.1,y11.2.2.2.2.1,y11.2.2.2.2.2.1,())) (fun y12 =>none) (fun y12 =>some (.inr (y12.1,y12.2.1,y12.2.2.1,y12.2.2.2.1,y12.2.2.2.2.1,y12.2.2.2.2.2.1,y12.2.2.2.2.2.2.1,())))) (chk (inB v8 10) (chk (decide (v8.toNat < 10)) (ob (dG n (7,[0,0,0,0],y9.1,0,0,0,v8,y11.2.1,y11.2.2.1,y11.2.2.2.1,y11.2.2.2.2.1.set (v8.toNat) true,y11.2.2.2.2.2.1,())) fun y13 =>some (.inl (y13.1,y13.2.1,y13.2.2.1,y13.2.2.2.1,y13.2.2.2.2.1,y13.2.2.2.2.2.1,()))))))) (fun y9 =>some (.inr (y9.1,y9.2.1,y9.2.2.1,y9.2.2.2.1,y9.2.2.2.2.1,y9.2.2.2.2.2.1,y9.2.2.2.2.2.2.1,()))))
def xC (n:Nat) (aT:(jM)->Option xX) (x:Bool×jM):Option xX :=let Kc:=x.1
 let s2:=x.2.1
 let at3:=x.2.2.1
 let gM:=x.2.2.2.1
 let gN:=x.2.2.2.2.1
 let bX:=x.2.2.2.2.2.1
 let v7:Int:=IntKind.wrap .i64 (at3+1)
 br (v7==(s2.length:Int)) (ob2 (aL n (40,at3,s2,v7,gM,gN,bX,())) (fun y8 =>none) (fun y8 =>some (.inr (y8.1,y8.2.1,y8.2.2.1,y8.2.2.2.1,y8.2.2.2.2.1,y8.2.2.2.2.2.1,y8.2.2.2.2.2.2.1,())))) (chk (inB v7 s2.length) (let v9:Int:=((aV 0 s2 v7).toNat:Int)
 let v10:Int:=IntKind.wrap .i64 (v7+1)
 br (v9==40) (ob2 (vF n aT (at3,s2,v10,gM,gN,bX,())) (fun y11 =>some (.inl (y11.1,y11.2.1,y11.2.2.1,y11.2.2.2.1,y11.2.2.2.2.1,y11.2.2.2.2.2.1,()))) (fun y11 =>some (.inr (y11.1,y11.2.1,y11.2.2.1,y11.2.2.2.1,y11.2.2.2.2.1,y11.2.2.2.2.2.1,y11.2.2.2.2.2.2.1,())))) (br (decide (v9≥49)) (br (decide (v9<=57)) (let v12:Int:=IntKind.wrap .u8 (v9 - 48)
 chk (inB (IntKind.wrap .i64 v12) 10) (chk (decide ((IntKind.wrap .i64 v12).toNat < 10)) (br (!(gN.getD ((IntKind.wrap .i64 v12).toNat) (Ty.dflt .bool))) (ob2 (aL n (44,at3,s2,v10,gM,gN,bX,())) (fun y13 =>none) (fun y13 =>some (.inr (y13.1,y13.2.1,y13.2.2.1,y13.2.2.2.1,y13.2.2.2.2.1,y13.2.2.2.2.2.1,y13.2.2.2.2.2.2.1,())))) (ob (dG n (8,[0,0,0,0],0,0,0,0,IntKind.wrap .i64 v12,s2,v10,gM,gN,bX,())) fun y14 =>some (.inl (y14.1,y14.2.1,y14.2.2.1,y14.2.2.2.1,y14.2.2.2.2.1,y14.2.2.2.2.2.1,())))))) (br (v9==110) (ob (xB n [10]) fun y15 =>ob (dZ n (y15,s2,v10,gM,gN,bX,())) fun y16 =>some (.inl (y16.1,y16.2.1,y16.2.2.1,y16.2.2.2.1,y16.2.2.2.2.1,y16.2.2.2.2.2.1,()))) (ob (strings_IndexByte n ([46,91,92,42,94,36,47],v9)) fun y17 =>br (decide (y17≥0)) (ob (dW n (v9,v9)) fun y18 =>ob (dZ n (y18,s2,v10,gM,gN,bX,())) fun y19 =>some (.inl (y19.1,y19.2.1,y19.2.2.1,y19.2.2.2.1,y19.2.2.2.2.1,y19.2.2.2.2.2.1,()))) (br (v9==123) (br Kc (ob2 (aL n (43,at3,s2,v10,gM,gN,bX,())) (fun y20 =>none) (fun y20 =>some (.inr (y20.1,y20.2.1,y20.2.2.1,y20.2.2.2.1,y20.2.2.2.2.1,y20.2.2.2.2.2.1,y20.2.2.2.2.2.2.1,())))) (ob2 (aL n (40,at3,s2,v10,gM,gN,bX,())) (fun y21 =>none) (fun y21 =>some (.inr (y21.1,y21.2.1,y21.2.2.1,y21.2.2.2.1,y21.2.2.2.2.1,y21.2.2.2.2.2.1,y21.2.2.2.2.2.2.1,()))))) (ob2 (aL n (40,at3,s2,v10,gM,gN,bX,())) (fun y22 =>none) (fun y22 =>some (.inr (y22.1,y22.2.1,y22.2.2.1,y22.2.2.2.1,y22.2.2.2.2.1,y22.2.2.2.2.2.1,y22.2.2.2.2.2.2.1,())))))))) (br (v9==110) (ob (xB n [10]) fun y23 =>ob (dZ n (y23,s2,v10,gM,gN,bX,())) fun y24 =>some (.inl (y24.1,y24.2.1,y24.2.2.1,y24.2.2.2.1,y24.2.2.2.2.1,y24.2.2.2.2.2.1,()))) (ob (strings_IndexByte n ([46,91,92,42,94,36,47],v9)) fun y25 =>br (decide (y25≥0)) (ob (dW n (v9,v9)) fun y26 =>ob (dZ n (y26,s2,v10,gM,gN,bX,())) fun y27 =>some (.inl (y27.1,y27.2.1,y27.2.2.1,y27.2.2.2.1,y27.2.2.2.2.1,y27.2.2.2.2.2.1,()))) (br (v9==123) (br Kc (ob2 (aL n (43,at3,s2,v10,gM,gN,bX,())) (fun y28 =>none) (fun y28 =>some (.inr (y28.1,y28.2.1,y28.2.2.1,y28.2.2.2.1,y28.2.2.2.2.1,y28.2.2.2.2.2.1,y28.2.2.2.2.2.2.1,())))) (ob2 (aL n (40,at3,s2,v10,gM,gN,bX,())) (fun y29 =>none) (fun y29 =>some (.inr (y29.1,y29.2.1,y29.2.2.1,y29.2.2.2.1,y29.2.2.2.2.1,y29.2.2.2.2.2.1,y29.2.2.2.2.2.2.1,()))))) (ob2 (aL n (40,at3,s2,v10,gM,gN,bX,())) (fun y30 =>none) (fun y30 =>some (.inr (y30.1,y30.2.1,y30.2.2.1,y30.2.2.2.1,y30.2.2.2.2.1,y30.2.2.2.2.2.1,y30.2.2.2.2.2.2.1,()))))))))))
def xD (n:Nat) (aT:(jM)->Option xX) (x:Bool×jM):Option xX :=let Kc:=x.1
 let s2:=x.2.1
 let at3:=x.2.2.1
 let gM:=x.2.2.2.1
 let gN:=x.2.2.2.2.1
 let bX:=x.2.2.2.2.2.1
 ob (dQ n ([46],s2,at3,gM,gN,bX,())) fun y7 =>br y7.1 (ob (Vf n ([0,0,0,0])) fun y8 =>ob (dZ n (y8,y7.2.1,y7.2.2.1,y7.2.2.2.1,y7.2.2.2.2.1,y7.2.2.2.2.2.1,())) fun y9 =>some (.inl (y9.1,y9.2.1,y9.2.2.1,y9.2.2.2.1,y9.2.2.2.2.1,y9.2.2.2.2.2.1,()))) (ob (bF n ([91],y7.2.1,y7.2.2.1,y7.2.2.2.1,y7.2.2.2.2.1,y7.2.2.2.2.2.1,())) fun y10 =>br y10.1 (chk ((decide (0<=y10.2.2.1)&&decide (y10.2.2.1<=(y10.2.1.length:Int)))) (let v11:List UInt8:=y10.2.1.drop y10.2.2.1.toNat
 ob (xZ n v11) fun y12 =>br (y12.2.2 != 0) (ob2 (aL n (y12.2.2,y10.2.2.1,y10.2.1,y10.2.2.1,y10.2.2.2.1,y10.2.2.2.2.1,y10.2.2.2.2.2.1,())) (fun y13 =>none) (fun y13 =>some (.inr (y13.1,y13.2.1,y13.2.2.1,y13.2.2.2.1,y13.2.2.2.2.1,y13.2.2.2.2.2.1,y13.2.2.2.2.2.2.1,())))) (let v14:Int:=IntKind.wrap .i64 (y10.2.2.1+y12.2.1)
 ob (dZ n (y12.1,y10.2.1,v14,y10.2.2.2.1,y10.2.2.2.2.1,y10.2.2.2.2.2.1,())) fun y15 =>some (.inl (y15.1,y15.2.1,y15.2.2.1,y15.2.2.2.1,y15.2.2.2.2.1,y15.2.2.2.2.2.1,()))))) (ob (bF n ([92],y10.2.1,y10.2.2.1,y10.2.2.2.1,y10.2.2.2.2.1,y10.2.2.2.2.2.1,())) fun y16 =>br y16.1 (ob2 (xC n aT (Kc,y16.2.1,y16.2.2.1,y16.2.2.2.1,y16.2.2.2.2.1,y16.2.2.2.2.2.1,())) (fun y17 =>some (.inl (y17.1,y17.2.1,y17.2.2.1,y17.2.2.2.1,y17.2.2.2.2.1,y17.2.2.2.2.2.1,()))) (fun y17 =>some (.inr (y17.1,y17.2.1,y17.2.2.1,y17.2.2.2.1,y17.2.2.2.2.1,y17.2.2.2.2.2.1,y17.2.2.2.2.2.2.1,())))) (let v18:Int:=IntKind.wrap .i64 (y16.2.2.1+1)
 let v19:Int:=IntKind.wrap .i64 (v18 - 1)
 chk ((decide (0<=v18)&&decide (v18<=(y16.2.1.length:Int))&&(decide (0<=v19)&&decide (v19<=v18)))) (let v20:List UInt8:=(y16.2.1.take v18.toNat).drop v19.toNat
 ob (xB n v20) fun y21 =>ob (dZ n (y21,y16.2.1,v18,y16.2.2.2.1,y16.2.2.2.2.1,y16.2.2.2.2.2.1,())) fun y22 =>some (.inl (y22.1,y22.2.1,y22.2.2.1,y22.2.2.2.1,y22.2.2.2.2.1,y22.2.2.2.2.2.1,()))))))
def uJ (n:Nat) (g1:Int×Int×List UInt8×Int×Int×List (Bool)×List (NdT)×List (Int)×Unit->Option xX) (x50:Int×Int×List UInt8×Int×Int×List (Bool)×List (NdT)×List (Int)×Unit):Option xX :=let yNi:=x50.1
 let yAm:=x50.2.1
 let s53:=x50.2.2.1
 let yYz:=x50.2.2.2.1
 let yFy:=x50.2.2.2.2.1
 let yFz:=x50.2.2.2.2.2.1
 let yUl:=x50.2.2.2.2.2.2.1
 let zKk:=x50.2.2.2.2.2.2.2.1
 br (decide (yAm≥0)) (chk ((inB yAm (zKk.length)&&decide (0+(zKk.length)<=zKk.length))) (chk (decide (0+yAm.toNat<zKk.length)) (let v59:Int:=zKk.getD (0+yAm.toNat) (Ty.dflt (.int .i64))
 ob (dG n (4,[0,0,0,0],v59,yNi,0,0,0,s53,yYz,yFy,yFz,yUl,())) fun y60 =>let v61:Int:=IntKind.wrap .i64 (yAm - 1)
 g1 (y60.1,v61,y60.2.1,y60.2.2.1,y60.2.2.2.1,y60.2.2.2.2.1,y60.2.2.2.2.2.1,zKk,())))) (some (.inl (yNi,s53,yYz,yFy,yFz,yUl,())))
def uK (n:Nat) (x37:List UInt8×Int×Int×List (Bool)×List (NdT)×List (Int)×Unit):Option xX :=let s38:=x37.1
 let yZa:=x37.2.1
 let yGa:=x37.2.2.1
 let yGb:=x37.2.2.2.1
 let yUm:=x37.2.2.2.2.1
 let Uf:=x37.2.2.2.2.2.1
 let v44:Int:=((Uf.length:Nat):Int)
 br (v44==0) (some (.inl ((-1),s38,yZa,yGa,yGb,yUm,()))) (let v45:Int:=((Uf.length:Nat):Int)
 let v46:Int:=IntKind.wrap .i64 (v45 - 1)
 chk ((inB v46 (Uf.length)&&decide (0+(Uf.length)<=Uf.length))) (chk (decide (0+v46.toNat<Uf.length)) (let v47:Int:=Uf.getD (0+v46.toNat) (Ty.dflt (.int .i64))
 let v48:Int:=((Uf.length:Nat):Int)
 let v49:Int:=IntKind.wrap .i64 (v48 - 2)
 fix (uJ n) n (v47,v49,s38,yZa,yGa,yGb,yUm,Uf,()))))
def jN (n:Nat) (aT:(jM)->Option xX) (g0:Bool×List UInt8×Int×Int×List (Bool)×List (NdT)×List (Int)×Unit->Option xX) (x26:Bool×Bool×List UInt8×Int×Int×List (Bool)×List (NdT)×List (Int)×Unit):Option xX :=let yRl:=x26.1
 let yZb:=x26.2.1
 let s29:=x26.2.2.1
 let yJq:=x26.2.2.2.1
 let yGc:=x26.2.2.2.2.1
 let yGd:=x26.2.2.2.2.2.1
 let yUn:=x26.2.2.2.2.2.2.1
 let zYe:=x26.2.2.2.2.2.2.2.1
 br yZb (let v35:Int:=IntKind.wrap .i64 (yJq+1)
 ob (dG n (3,[0,0,0,0],0,0,0,0,0,s29,v35,yGc,yGd,yUn,())) fun y36 =>chk (Nat.ble ((zYe.length+([y36.1]:List (Int)).length) * 8) room) (jn (uK n) (y36.2.1,y36.2.2.1,y36.2.2.2.1,y36.2.2.2.2.1,y36.2.2.2.2.2.1,zYe++[y36.1],()))) (ob2 (xD n aT (yRl,s29,yJq,yGc,yGd,yUn,())) (fun y62 =>ob2 (vE n (y62.1,y62.2.1,y62.2.2.1,y62.2.2.2.1,y62.2.2.2.2.1,y62.2.2.2.2.2.1,())) (fun y63 =>chk (Nat.ble ((zYe.length+([y63.1]:List (Int)).length) * 8) room) (g0 (false,y63.2.1,y63.2.2.1,y63.2.2.2.1,y63.2.2.2.2.1,y63.2.2.2.2.2.1,zYe++[y63.1],()))) (fun y63 =>some (.inr (y63.1,y63.2.1,y63.2.2.1,y63.2.2.2.1,y63.2.2.2.2.1,y63.2.2.2.2.2.1,y63.2.2.2.2.2.2.1,())))) (fun y62 =>some (.inr (y62.1,y62.2.1,y62.2.2.1,y62.2.2.2.1,y62.2.2.2.2.1,y62.2.2.2.2.2.1,y62.2.2.2.2.2.2.1,()))))
def oZ (n:Nat) (aT:(jM)->Option xX) (g0:Bool×List UInt8×Int×Int×List (Bool)×List (NdT)×List (Int)×Unit->Option xX) (x15:Bool×List UInt8×Int×Int×List (Bool)×List (NdT)×List (Int)×Unit):Option xX :=let zNi:=x15.1
 let s17:=x15.2.1
 let xDx:=x15.2.2.1
 let yWi:=x15.2.2.2.1
 let yWj:=x15.2.2.2.2.1
 let xBz:=x15.2.2.2.2.2.1
 let qI:=x15.2.2.2.2.2.2.1
 ob (tQ n (s17,xDx,yWi,yWj,xBz,())) fun y23 =>br (!y23.1) (ob (bF n ([36],y23.2.1,y23.2.2.1,y23.2.2.2.1,y23.2.2.2.2.1,y23.2.2.2.2.2.1,())) fun y24 =>br y24.1 (let v25:Int:=IntKind.wrap .i64 (y24.2.2.1+1)
 br (v25==(y24.2.1.length:Int)) (jn (jN n aT g0) (zNi,true,y24.2.1,y24.2.2.1,y24.2.2.2.1,y24.2.2.2.2.1,y24.2.2.2.2.2.1,qI,())) (ob (bF n ([36,92,41],y24.2.1,y24.2.2.1,y24.2.2.2.1,y24.2.2.2.2.1,y24.2.2.2.2.2.1,())) fun y64 =>jn (jN n aT g0) (zNi,y64.1,y64.2.1,y64.2.2.1,y64.2.2.2.1,y64.2.2.2.2.1,y64.2.2.2.2.2.1,qI,()))) (jn (jN n aT g0) (zNi,false,y24.2.1,y24.2.2.1,y24.2.2.2.1,y24.2.2.2.2.1,y24.2.2.2.2.2.1,qI,()))) (jn (uK n) (y23.2.1,y23.2.2.1,y23.2.2.2.1,y23.2.2.2.2.1,y23.2.2.2.2.2.1,qI,()))
def uL (n:Nat) (aT:(jM)->Option xX) (x8:List UInt8×Int×Int×List (Bool)×List (NdT)×List (Int)×Unit):Option xX :=let s9:=x8.1
 let xDy:=x8.2.1
 let yWk:=x8.2.2.1
 let yWl:=x8.2.2.2.1
 let Zb:=x8.2.2.2.2.1
 let xCa:=x8.2.2.2.2.2.1
 fix (oZ n aT) n (true,s9,xDy,yWk,yWl,Zb,xCa,())
def vW (n:Nat) (aT:(jM)->Option xX) (x:jM):Option xX :=let s1:=x.1
 let at2:=x.2.1
 let zBl:=x.2.2.1
 let zBm:=x.2.2.2.1
 let Ji:=x.2.2.2.2.1
 ob (dQ n ([94],s1,at2,zBl,zBm,Ji,())) fun y6 =>br y6.1 (ob (dG n (2,[0,0,0,0],0,0,0,0,0,y6.2.1,y6.2.2.1,y6.2.2.2.1,y6.2.2.2.2.1,y6.2.2.2.2.2.1,())) fun y7 =>chk (Nat.ble (([y7.1]:List (Int)).length * 8) room) (jn (uL n aT) (y7.2.1,y7.2.2.1,y7.2.2.2.1,y7.2.2.2.2.1,y7.2.2.2.2.2.1,[y7.1],()))) (jn (uL n aT) (y6.2.1,y6.2.2.1,y6.2.2.2.1,y6.2.2.2.2.1,y6.2.2.2.2.2.1,[],()))
def lK (n:Nat):(jM)->Option xX :=yAi (fun n r x=>vW n r x) n
def Ie (n:Nat) (x:List UInt8×jM):Option (Sum (List UInt8×jM) (Int×Int×List UInt8×jM)) :=let b1:=x.1
 let s2:=x.2.1
 let at3:=x.2.2.1
 let gM:=x.2.2.2.1
 let gN:=x.2.2.2.2.1
 let bX:=x.2.2.2.2.2.1
 ob2 (lK n (s2,at3,gM,gN,bX,())) (fun y7 =>br (decide (y7.2.2.1<(b1.length:Int))) (ob2 (aL n (41,y7.2.2.1,y7.2.1,y7.2.2.1,y7.2.2.2.1,y7.2.2.2.2.1,y7.2.2.2.2.2.1,())) (fun y8 =>none) (fun y8 =>some (.inr (y8.1,y8.2.1,b1,y8.2.2.1,y8.2.2.2.1,y8.2.2.2.2.1,y8.2.2.2.2.2.1,y8.2.2.2.2.2.2.1,())))) (let v9:Int:=((y7.2.2.2.2.2.1.length:Nat):Int)
 br (decide (v9 > 120)) (ob2 (aL n (2,0,y7.2.1,y7.2.2.1,y7.2.2.2.1,y7.2.2.2.2.1,y7.2.2.2.2.2.1,())) (fun y10 =>none) (fun y10 =>some (.inr (y10.1,y10.2.1,b1,y10.2.2.1,y10.2.2.2.1,y10.2.2.2.2.1,y10.2.2.2.2.2.1,y10.2.2.2.2.2.2.1,())))) (some (.inl (b1,y7.2.1,y7.2.2.1,y7.2.2.2.1,y7.2.2.2.2.1,y7.2.2.2.2.2.1,()))))) (fun y7 =>some (.inr (y7.1,y7.2.1,b1,y7.2.2.1,y7.2.2.2.1,y7.2.2.2.2.1,y7.2.2.2.2.2.1,y7.2.2.2.2.2.2.1,())))
def jX (n:Nat) (x:List UInt8×jM):Option (Int×Int×List UInt8×jM):=ob2 (Ie n x) (fun y=>some (0,0,y)) (fun y=>some y)
def Ke (n:Nat) (x:List UInt8):Option (List (NdT)×Int×Int) :=let s_0:=x
 br (s_0==[]) (some ([(0,([0,0,0,0],(0,(0,(0,(0,(0,())))))))],0,0)) (ob (jX n (s_0,s_0,0,0,[false,false,false,false,false,false,false,false,false,false],[],())) fun y1 =>br (y1.1 != 0) (some ([],y1.2.1,y1.1)) (some (y1.2.2.2.2.2.2.2.1,0,0)))
def qC (n:Nat) (x:Int×List (Int)×Int×Int×Int×Int×Int×Unit):Option (Int) :=let n_0:=x
 br (n_0.1==4) (br (n_0.1==4) (some 2) (br (n_0.1==6) (br (n_0.1==6) (some 1) (some 0)) (br (n_0.1==7) (some 1) (some 0)))) (br (n_0.1==5) (some 2) (br (n_0.1==6) (br (n_0.1==6) (some 1) (some 0)) (br (n_0.1==7) (some 1) (some 0))))
def dJ (n:Nat) (x:Int×List (Int)×Int×Int×Int×Int×Int×Unit):Option (NdT) :=let n_0:=x
 br (n_0.1==1) (some (n_0.1,(n_0.2.1,(0,(0,(0,(0,(0,())))))))) (br (n_0.1==4) (br (n_0.1==4) (some (n_0.1,([0,0,0,0],(n_0.2.2.1,(n_0.2.2.2.1,(0,(0,(0,())))))))) (br (n_0.1==6) (some (n_0.1,([0,0,0,0],(n_0.2.2.1,(0,(n_0.2.2.2.2.1,(n_0.2.2.2.2.2.1,(0,())))))))) (br (n_0.1==7) (some (n_0.1,([0,0,0,0],(n_0.2.2.1,(0,(0,(0,n_0.2.2.2.2.2.2))))))) (br (n_0.1==8) (some (n_0.1,([0,0,0,0],(0,(0,(0,(0,n_0.2.2.2.2.2.2))))))) (some (n_0.1,([0,0,0,0],(0,(0,(0,(0,(0,())))))))))))) (br (n_0.1==5) (some (n_0.1,([0,0,0,0],(n_0.2.2.1,(n_0.2.2.2.1,(0,(0,(0,())))))))) (br (n_0.1==6) (some (n_0.1,([0,0,0,0],(n_0.2.2.1,(0,(n_0.2.2.2.2.1,(n_0.2.2.2.2.2.1,(0,())))))))) (br (n_0.1==7) (some (n_0.1,([0,0,0,0],(n_0.2.2.1,(0,(0,(0,n_0.2.2.2.2.2.2))))))) (br (n_0.1==8) (some (n_0.1,([0,0,0,0],(0,(0,(0,(0,n_0.2.2.2.2.2.2))))))) (some (n_0.1,([0,0,0,0],(0,(0,(0,(0,(0,())))))))))))))
def yA(n:Nat)(x:Int × List (Int) × Int × Int × Int × Int × Int × Unit):Option (Bool):=
 let n_0:Int × List (Int) × Int × Int × Int × Int × Int × Unit:=x
 br (decide (n_0.1<0)) (
  some false) (
  br (decide (n_0.1>8)) (
   some false) (
   ob (dJ n n_0) λy1 =>
   br (!(Ty.beq bA n_0 y1)) (
    some false) (
    br (n_0.1==1) (
     some (!(Ty.beq (.arr 4 (.int .u64)) n_0.2.1 ([0,0,0,0])))) (
     br (n_0.1==6) (
      br (decide (n_0.2.2.2.2.1≥0)) (
       br (decide (n_0.2.2.2.2.1<=255)) (
        br (n_0.2.2.2.2.2.1==(-1)) (
         some true) (
         let v2:Int:=if 1>n_0.2.2.2.2.1 then 1 else n_0.2.2.2.2.1
         br (decide (n_0.2.2.2.2.2.1≥v2)) (
          some (decide (n_0.2.2.2.2.2.1<=255))) (
          some false))) (
        some false)) (
       some false)) (
      br (n_0.1==7) (
       br (n_0.1==7) (
        br (decide (n_0.2.2.2.2.2.2.1≥1)) (
         some (decide (n_0.2.2.2.2.2.2.1<=9))) (
         some false)) (
        some true)) (
       br (n_0.1==8) (
        br (decide (n_0.2.2.2.2.2.2.1≥1)) (
         some (decide (n_0.2.2.2.2.2.2.1<=9))) (
         some false)) (
        some true)))))))
def Zx (n:Nat) (g0:List (Int)×Int×Int×Int×Unit->Option (Int)) (x1:List (Int)×Int×Int×Int×Unit):Option (Int) :=let s_2:=x1.1
 let v_3:=x1.2.1
 let yAn:=x1.2.2.1
 let Vz:=x1.2.2.2.1
 br (decide (Vz<yAn)) (chk (inB Vz s_2.length) (let v6:Int:=aV (Ty.dflt (.int .i64)) s_2 Vz
 br (v_3==v6) (some Vz) (let v7:Int:=IntKind.wrap .i64 (Vz+1)
 g0 (s_2,v_3,yAn,v7,())))) (some (-1))
def Jj (n:Nat) (x:List (Int)×Int):Option (Int) :=let s_0:=x.1
 let v_1:=x.2
 fix (Zx n) n (s_0,v_1,(s_0.length:Int),0,())
def vX (n:Nat) (x:List (Int)×Int):Option (Bool) :=let s_0:=x.1
 let v_1:=x.2
 ob (Jj n (s_0,v_1)) fun y1 =>some (decide (y1≥0))
def pY (n:Nat) (x:List (NdT)×Int×List (Int)×Int×Int×Int×Int×Int×Unit):Option (Bool) :=let l_0:=x.1
 let n_1:=x.2
 br (n_1.1==4) (chk (inB n_1.2.2.1 l_0.length) (let v1:Int×List (Int)×Int×Int×Int×Int×Int×Unit:=aV (Ty.dflt bA) l_0 n_1.2.2.1
 br (v1.1 != 4) (chk (inB n_1.2.2.1 l_0.length) (let v2:Int×List (Int)×Int×Int×Int×Int×Int×Unit:=aV (Ty.dflt bA) l_0 n_1.2.2.1
 br (v2.1 != 5) (chk (inB n_1.2.2.2.1 l_0.length) (let v3:Int×List (Int)×Int×Int×Int×Int×Int×Unit:=aV (Ty.dflt bA) l_0 n_1.2.2.2.1
 some (v3.1 != 5))) (some false))) (some false))) (br (n_1.1==5) (chk (inB n_1.2.2.1 l_0.length) (let v4:Int×List (Int)×Int×Int×Int×Int×Int×Unit:=aV (Ty.dflt bA) l_0 n_1.2.2.1
 some (v4.1 != 5))) (br (n_1.1==6) (chk (inB n_1.2.2.1 l_0.length) (let v5:Int×List (Int)×Int×Int×Int×Int×Int×Unit:=aV (Ty.dflt bA) l_0 n_1.2.2.1
 ob (vX n ([1,7,8],v5.1)) fun y6 =>some y6)) (some true)))
def jO (n:Nat) (g0:List (NdT)×List (NdT)×Int×Int×List (Int)×Unit->Option (Bool)) (x1:List (NdT)×List (NdT)×Int×Int×List (Int)×Unit):Option (Bool) :=let l_2:=x1.1
 let zHq:=x1.2.1
 let Wd:=x1.2.2.1
 let oG:=x1.2.2.2.1
 let bX:=x1.2.2.2.2.1
 br (decide (oG<Wd)) (chk (inB oG zHq.length) (let v7:Int×List (Int)×Int×Int×Int×Int×Int×Unit:=aV (Ty.dflt bA) zHq oG
 let v8:Int:=((bX.length:Nat):Int)
 ob (qC n v7) fun y9 =>let v10:Int:=IntKind.wrap .i64 (v8-y9)
 ob (yA n v7) fun y11 =>br (!y11) (some false) (br (decide (v10 < 0)) (some false) (br (v7.1==0) (br (decide ((l_2.length:Int) > 1)) (some false) (chk ((decide (0<=v10)&&decide (v10<=(bX.length:Int)))) (let v12:Int:=(((bX.length)-(v10.toNat):Nat):Int)
 br (decide (v12 > 0)) (chk ((inB 0 ((bX.length)-(v10.toNat))&&decide ((0+(v10.toNat))+((bX.length)-(v10.toNat))<=bX.length))) (chk (decide ((0+(v10.toNat))+(0:Int).toNat<bX.length)) (let v13:Int:=bX.getD ((0+(v10.toNat))+(0:Int).toNat) (Ty.dflt (.int .i64))
 br (v13 != v7.2.2.1) (some false) (let v14:Int:=(((bX.length)-(v10.toNat):Nat):Int)
 br (decide (v14 > 1)) (chk ((inB 1 ((bX.length)-(v10.toNat))&&decide ((0+(v10.toNat))+((bX.length)-(v10.toNat))<=bX.length))) (chk (decide ((0+(v10.toNat))+(1:Int).toNat<bX.length)) (let v15:Int:=bX.getD ((0+(v10.toNat))+(1:Int).toNat) (Ty.dflt (.int .i64))
 br (v15 != v7.2.2.2.1) (some false) (ob (pY n (l_2,v7)) fun y16 =>br (!y16) (some false) (chk ((decide (0<=v10)&&decide (v10<=(bX.length:Int)))) (chk ((Nat.ble (v10.toNat) bX.length&&Nat.ble (((v10.toNat)+([oG]:List (Int)).length) * 8) room)) (let r17:List (Int):=bX.take (v10.toNat)++[oG]
 let v18:Int:=IntKind.wrap .i64 (oG+1)
 g0 (l_2,zHq,Wd,v18,r17,())))))))) (ob (pY n (l_2,v7)) fun y19 =>br (!y19) (some false) (chk ((decide (0<=v10)&&decide (v10<=(bX.length:Int)))) (chk ((Nat.ble (v10.toNat) bX.length&&Nat.ble (((v10.toNat)+([oG]:List (Int)).length) * 8) room)) (let r20:List (Int):=bX.take (v10.toNat)++[oG]
 let v21:Int:=IntKind.wrap .i64 (oG+1)
 g0 (l_2,zHq,Wd,v21,r20,()))))))))) (ob (pY n (l_2,v7)) fun y22 =>br (!y22) (some false) (chk ((decide (0<=v10)&&decide (v10<=(bX.length:Int)))) (chk ((Nat.ble (v10.toNat) bX.length&&Nat.ble (((v10.toNat)+([oG]:List (Int)).length) * 8) room)) (let r23:List (Int):=bX.take (v10.toNat)++[oG]
 let v24:Int:=IntKind.wrap .i64 (oG+1)
 g0 (l_2,zHq,Wd,v24,r23,())))))))) (chk ((decide (0<=v10)&&decide (v10<=(bX.length:Int)))) (let v25:Int:=(((bX.length)-(v10.toNat):Nat):Int)
 br (decide (v25 > 0)) (chk ((inB 0 ((bX.length)-(v10.toNat))&&decide ((0+(v10.toNat))+((bX.length)-(v10.toNat))<=bX.length))) (chk (decide ((0+(v10.toNat))+(0:Int).toNat<bX.length)) (let v26:Int:=bX.getD ((0+(v10.toNat))+(0:Int).toNat) (Ty.dflt (.int .i64))
 br (v26 != v7.2.2.1) (some false) (let v27:Int:=(((bX.length)-(v10.toNat):Nat):Int)
 br (decide (v27 > 1)) (chk ((inB 1 ((bX.length)-(v10.toNat))&&decide ((0+(v10.toNat))+((bX.length)-(v10.toNat))<=bX.length))) (chk (decide ((0+(v10.toNat))+(1:Int).toNat<bX.length)) (let v28:Int:=bX.getD ((0+(v10.toNat))+(1:Int).toNat) (Ty.dflt (.int .i64))
 br (v28 != v7.2.2.2.1) (some false) (ob (pY n (l_2,v7)) fun y29 =>br (!y29) (some false) (chk ((decide (0<=v10)&&decide (v10<=(bX.length:Int)))) (chk ((Nat.ble (v10.toNat) bX.length&&Nat.ble (((v10.toNat)+([oG]:List (Int)).length) * 8) room)) (let r30:List (Int):=bX.take (v10.toNat)++[oG]
 let v31:Int:=IntKind.wrap .i64 (oG+1)
 g0 (l_2,zHq,Wd,v31,r30,())))))))) (ob (pY n (l_2,v7)) fun y32 =>br (!y32) (some false) (chk ((decide (0<=v10)&&decide (v10<=(bX.length:Int)))) (chk ((Nat.ble (v10.toNat) bX.length&&Nat.ble (((v10.toNat)+([oG]:List (Int)).length) * 8) room)) (let r33:List (Int):=bX.take (v10.toNat)++[oG]
 let v34:Int:=IntKind.wrap .i64 (oG+1)
 g0 (l_2,zHq,Wd,v34,r33,()))))))))) (ob (pY n (l_2,v7)) fun y35 =>br (!y35) (some false) (chk ((decide (0<=v10)&&decide (v10<=(bX.length:Int)))) (chk ((Nat.ble (v10.toNat) bX.length&&Nat.ble (((v10.toNat)+([oG]:List (Int)).length) * 8) room)) (let r36:List (Int):=bX.take (v10.toNat)++[oG]
 let v37:Int:=IntKind.wrap .i64 (oG+1)
 g0 (l_2,zHq,Wd,v37,r36,()))))))))))) (let v38:Int:=((bX.length:Nat):Int)
 some (v38==1))
def Fz (n:Nat) (x:List (NdT)):Option (Bool) :=let l_0:=x
 fix (jO n) n (l_0,l_0,(l_0.length:Int),0,[],())
def eZ (n:Nat) (fJ:(Int×List (NdT)×Int×Bool×List (Bool)×Bool×Unit)->Option (List (NdT)×Int×Bool×List (Bool)×Bool×Unit)) (x:Int×List (NdT)×Int×Bool×List (Bool)×Bool×Unit):Option (List (NdT)×Int×Bool×List (Bool)×Bool×Unit) :=let i_1:=x.1
 let b2:=x.2.1
 let b3:=x.2.2.1
 let b4:=x.2.2.2.1
 let b5:=x.2.2.2.2.1
 let b6:=x.2.2.2.2.2.1
 chk (inB i_1 b2.length) (let v7:Int×List (Int)×Int×Int×Int×Int×Int×Unit:=aV (Ty.dflt bA) b2 i_1
 br (v7.1==4) (br (v7.1==4) (ob (fJ (v7.2.2.1,b2,b3,b4,b5,b6,())) fun y8 =>ob (fJ (v7.2.2.2.1,y8.1,y8.2.1,y8.2.2.1,y8.2.2.2.1,y8.2.2.2.2.1,())) fun y9 =>some (y9.1,y9.2.1,y9.2.2.1,y9.2.2.2.1,y9.2.2.2.2.1,())) (br (v7.1==6) (ob (fJ (v7.2.2.1,b2,b3,b4,b5,b6,())) fun y10 =>some (y10.1,y10.2.1,y10.2.2.1,y10.2.2.2.1,y10.2.2.2.2.1,())) (br (v7.1==7) (let v11:Int:=IntKind.wrap .i64 (b3+1)
 br b4 (ob (fJ (v7.2.2.1,b2,v11,(v7.2.2.2.2.2.2.1==v11),b5,b6,())) fun y12 =>chk (inB v7.2.2.2.2.2.2.1 10) (chk (decide (v7.2.2.2.2.2.2.1.toNat < 10)) (some (y12.1,y12.2.1,y12.2.2.1,y12.2.2.2.1.set (v7.2.2.2.2.2.2.1.toNat) true,y12.2.2.2.2.1,())))) (ob (fJ (v7.2.2.1,b2,v11,false,b5,b6,())) fun y13 =>chk (inB v7.2.2.2.2.2.2.1 10) (chk (decide (v7.2.2.2.2.2.2.1.toNat < 10)) (some (y13.1,y13.2.1,y13.2.2.1,y13.2.2.2.1.set (v7.2.2.2.2.2.2.1.toNat) true,y13.2.2.2.2.1,()))))) (br (v7.1==8) (br b4 (chk (inB v7.2.2.2.2.2.2.1 10) (chk (decide (v7.2.2.2.2.2.2.1.toNat < 10)) (some (b2,b3,b5.getD (v7.2.2.2.2.2.2.1.toNat) (Ty.dflt .bool),b5,true,())))) (some (b2,b3,false,b5,true,()))) (some (b2,b3,b4,b5,b6,())))))) (br (v7.1==5) (ob (fJ (v7.2.2.1,b2,b3,b4,b5,b6,())) fun y14 =>ob (fJ (v7.2.2.2.1,y14.1,y14.2.1,y14.2.2.1,y14.2.2.2.1,y14.2.2.2.2.1,())) fun y15 =>some (y15.1,y15.2.1,y15.2.2.1,y15.2.2.2.1,y15.2.2.2.2.1,())) (br (v7.1==6) (ob (fJ (v7.2.2.1,b2,b3,b4,b5,b6,())) fun y16 =>some (y16.1,y16.2.1,y16.2.2.1,y16.2.2.2.1,y16.2.2.2.2.1,())) (br (v7.1==7) (let v17:Int:=IntKind.wrap .i64 (b3+1)
 br b4 (ob (fJ (v7.2.2.1,b2,v17,(v7.2.2.2.2.2.2.1==v17),b5,b6,())) fun y18 =>chk (inB v7.2.2.2.2.2.2.1 10) (chk (decide (v7.2.2.2.2.2.2.1.toNat < 10)) (some (y18.1,y18.2.1,y18.2.2.1,y18.2.2.2.1.set (v7.2.2.2.2.2.2.1.toNat) true,y18.2.2.2.2.1,())))) (ob (fJ (v7.2.2.1,b2,v17,false,b5,b6,())) fun y19 =>chk (inB v7.2.2.2.2.2.2.1 10) (chk (decide (v7.2.2.2.2.2.2.1.toNat < 10)) (some (y19.1,y19.2.1,y19.2.2.1,y19.2.2.2.1.set (v7.2.2.2.2.2.2.1.toNat) true,y19.2.2.2.2.1,()))))) (br (v7.1==8) (br b4 (chk (inB v7.2.2.2.2.2.2.1 10) (chk (decide (v7.2.2.2.2.2.2.1.toNat < 10)) (some (b2,b3,b5.getD (v7.2.2.2.2.2.2.1.toNat) (Ty.dflt .bool),b5,true,())))) (some (b2,b3,false,b5,true,()))) (some (b2,b3,b4,b5,b6,())))))))
def tF (n:Nat):(Int×List (NdT)×Int×Bool×List (Bool)×Bool×Unit)->Option (List (NdT)×Int×Bool×List (Bool)×Bool×Unit) :=yAi (fun n r x=>eZ n r x) n
def Qd (n:Nat) (x:List (NdT)):Option (Int×Bool×Bool) :=let l_0:=x
 let v1:Int:=IntKind.wrap .i64 ((l_0.length:Int) - 1)
 ob (tF n (v1,l_0,0,true,[false,false,false,false,false,false,false,false,false,false],false,())) fun y2 =>some (y2.2.1,y2.2.2.2.2.1,y2.2.2.1)
def Vh (n:Nat) (x:List (NdT)):Option (Int×Bool×Bool) :=let l_0:=x
 br ((l_0.length:Int)==0) (some (0,false,false)) (br (decide ((l_0.length:Int) > 120)) (some (0,false,false)) (ob (Fz n l_0) fun y1 =>br (!y1) (some (0,false,false)) (ob (Qd n l_0) fun y2 =>br (!y2.2.2) (some (0,false,false)) (some (y2.1,y2.2.1,true)))))
def Qr (n:Nat) (x:List (NdT)):Option (Int) :=let l_0:=x
 ob (Vh n l_0) fun y1 =>some y1.1
def tT (n:Nat) (g0:Int×Int×List (Bool)×List (Bool)×Unit->Option (List (Bool))) (x1:Int×Int×List (Bool)×List (Bool)×Unit):Option (List (Bool)) :=let b_2:=x1.1
 let i_3:=x1.2.1
 let b4:=x1.2.2.1
 let b5:=x1.2.2.2.1
 br (decide (i_3<=(IntKind.wrap .i64 b_2))) (chk (inB i_3 256) (chk (decide (i_3.toNat < 256)) (let v6:Int:=IntKind.wrap .i64 (i_3+1)
 g0 (b_2,v6,b4,b5.set (i_3.toNat) true,())))) (some b5)
def iY (n:Nat) (x:Int×Int):Option (List (Bool)) :=let a_0:=x.1
 let b_1:=x.2
 fix (tT n) n (b_1,IntKind.wrap .i64 a_0,(List.replicate 256 false),(List.replicate 256 false),())
def Ga (n:Nat) (g0:Int×List (Bool)×List (Bool)×List (Bool)×Unit->Option (List (Bool))) (x1:Int×List (Bool)×List (Bool)×List (Bool)×Unit):Option (List (Bool)) :=let i_2:=x1.1
 let b3:=x1.2.1
 let b4:=x1.2.2.1
 let b5:=x1.2.2.2.1
 br (decide (i_2 < 256)) (chk (inB i_2 256) (chk (decide (i_2.toNat < 256)) (br (b3.getD (i_2.toNat) (Ty.dflt .bool)) (chk (inB i_2 256) (chk (decide (i_2.toNat < 256)) (let v6:Int:=IntKind.wrap .i64 (i_2+1)
 g0 (v6,b3.set (i_2.toNat) true,b4,b5,())))) (chk (inB i_2 256) (chk (decide (i_2.toNat < 256)) (chk (inB i_2 256) (chk (decide (i_2.toNat < 256)) (let v7:Int:=IntKind.wrap .i64 (i_2+1)
 g0 (v7,b3.set (i_2.toNat) (b4.getD (i_2.toNat) (Ty.dflt .bool)),b4,b5,()))))))))) (some b3)
def Ab (n:Nat) (x:List (Bool)×List (Bool)):Option (List (Bool)) :=let a_0:=x.1
 let b_1:=x.2
 fix (Ga n) n (0,a_0,b_1,(List.replicate 256 false),())
def Gb (n:Nat) (g0:List UInt8×Int×List (Bool)×List (Bool)×Unit->Option (List (Bool))) (x1:List UInt8×Int×List (Bool)×List (Bool)×Unit):Option (List (Bool)) :=let s_2:=x1.1
 let i_3:=x1.2.1
 let b4:=x1.2.2.1
 let b5:=x1.2.2.2.1
 br (decide (i_3<(s_2.length:Int))) (chk (inB i_3 s_2.length) (let v6:Int:=((aV 0 s_2 i_3).toNat:Int)
 chk (inB v6 256) (chk (decide (v6.toNat < 256)) (let v7:Int:=IntKind.wrap .i64 (i_3+1)
 g0 (s_2,v7,b4,b5.set (v6.toNat) true,()))))) (some b5)
def Wh (n:Nat) (x:List UInt8):Option (List (Bool)) :=let s_0:=x
 fix (Gb n) n (s_0,0,(List.replicate 256 false),(List.replicate 256 false),())
def tV (n:Nat) (g0:Int×List (Bool)×List (Bool)×List (Bool)×Unit->Option (List (Bool)×Bool)) (x21:Int×List (Bool)×List (Bool)×List (Bool)×Unit):Option (List (Bool)×Bool) :=let Jk:=x21.1
 let b23:=x21.2.1
 let b24:=x21.2.2.1
 let b25:=x21.2.2.2.1
 br (decide (Jk < 256)) (chk (inB Jk 256) (chk (decide (Jk.toNat < 256)) (br (b25.getD (Jk.toNat) (Ty.dflt .bool)) (chk (inB Jk 256) (chk (decide (Jk.toNat < 256)) (chk (inB Jk 256) (chk (decide (Jk.toNat < 256)) (let v26:Int:=IntKind.wrap .i64 (Jk+1)
 g0 (v26,b23,b24,b25.set (Jk.toNat) (!(b24.getD (Jk.toNat) (Ty.dflt .bool))),())))))) (chk (inB Jk 256) (chk (decide (Jk.toNat < 256)) (let v27:Int:=IntKind.wrap .i64 (Jk+1)
 g0 (v27,b23,b24,b25.set (Jk.toNat) false,()))))))) (some (b25,true))
def zLs (n:Nat) (x:List UInt8):Option (List (Bool)×Bool) :=let jT:=x
 ob (iY n (65,90)) fun y1 =>ob (iY n (97,122)) fun y2 =>ob (iY n (48,57)) fun y3 =>ob (Ab n (y1,y2)) fun y4 =>ob (Ab n (y4,y3)) fun y5 =>br (jT==[117,112,112,101,114]) (some (y1,true)) (br (jT==[108,111,119,101,114]) (some (y2,true)) (br (jT==[97,108,112,104,97]) (ob (Ab n (y1,y2)) fun y6 =>some (y6,true)) (br (jT==[100,105,103,105,116]) (some (y3,true)) (br (jT==[97,108,110,117,109]) (some (y5,true)) (br (jT==[120,100,105,103,105,116]) (ob (iY n (65,70)) fun y7 =>ob (iY n (97,102)) fun y8 =>ob (Ab n (y7,y8)) fun y9 =>ob (Ab n (y3,y9)) fun y10 =>some (y10,true)) (br (jT==[98,108,97,110,107]) (ob (Wh n [9,32]) fun y11 =>some (y11,true)) (br (jT==[115,112,97,99,101]) (ob (iY n (9,13)) fun y12 =>ob (Wh n [32]) fun y13 =>ob (Ab n (y12,y13)) fun y14 =>some (y14,true)) (br (jT==[99,110,116,114,108]) (ob (iY n (0,31)) fun y15 =>ob (iY n (127,127)) fun y16 =>ob (Ab n (y15,y16)) fun y17 =>some (y17,true)) (br (jT==[103,114,97,112,104]) (ob (iY n (33,126)) fun y18 =>some (y18,true)) (br (jT==[112,114,105,110,116]) (ob (iY n (32,126)) fun y19 =>some (y19,true)) (br (jT==[112,117,110,99,116]) (ob (iY n (33,126)) fun y20 =>fix (tV n) n (0,(List.replicate 256 false),y5,y20,())) (some ((List.replicate 256 false),false)))))))))))))
end Go.Dec
