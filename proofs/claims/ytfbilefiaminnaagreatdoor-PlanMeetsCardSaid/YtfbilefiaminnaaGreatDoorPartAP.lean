/- Part of a proof over this seat: a library of my own, and what it says of this seat. No statement is proved here. -/
import Derived.Test.YtfbilefiaminnaaGreatDoorPartAK
import Derived.Test.YtfbilefiaminnaaGreatDoorPartAM
import Derived.Test.YtfbilefiaminnaaGreatDoorPartAO
namespace Go.Dec
set_option linter.unusedVariables false
abbrev rD:Ty:=.pair .str (.pair (.slice .str) (.pair .bool .unit))
abbrev bQ:Ty:=.pair (.slice bA) (.pair .bool .unit)
abbrev Wi:Ty:=.pair (.int .i64) (.pair (.int .i64) (.pair (.int .i64) .unit))
abbrev zG:Ty:=.pair Wi (.pair Wi (.pair .bool .unit))
abbrev aC:Ty:=.pair zG (.pair (.int .u8) (.pair .str (.pair .str (.pair (.int .i64) (.pair (.int .i64) (.pair (.int .i64) (.pair (.slice oF) (.pair .bool (.pair .bool .unit)))))))))
abbrev oO:Ty:=.pair .bool (.pair (.slice bQ) (.pair (.slice aC) .unit))
abbrev dP:Ty:=.pair oO (.pair .bool (.pair (.slice .str) (.pair .bool .unit)))
abbrev gP:Ty:=.pair (.int .i64) (.pair (.int .i64) (.pair .str .unit))
abbrev Sc0:Type:=List UInt8 × Bool × Int × Int × Bool × Int × Int × Int × Int × Int × Int × Bool × Int × List UInt8 × List UInt8 × Int × Int × Int × List (List UInt8 × Int × Unit) × Bool × Bool × List (List (NdT) × Bool × Unit) × List (((Int × Int × Int × Unit) × (Int × Int × Int × Unit) × Bool × Unit) × Int × List UInt8 × List UInt8 × Int × Int × Int × List (List UInt8 × Int × Unit) × Bool × Bool × Unit) × List (Int × Int × List UInt8 × Unit) × List (Int × Int × List UInt8 × Unit) × List (List UInt8 × Int) × Unit
abbrev Sc1:Type:=((Int × Int × Int × Unit) × (Int × Int × Int × Unit) × Bool × Unit) × Int × List UInt8 × List UInt8 × Int × Int × Int × List (List UInt8 × Int × Unit) × Bool × Bool × Unit
abbrev Sc2:Type:=List UInt8 × Bool × Int × Value × Bool × Value × Int × Int × Int × Int × Int × Int × Bool × Int × List UInt8 × List UInt8 × Int × Int × Int × List (List UInt8 × Int × Unit) × Bool × Bool × Value × List (List (NdT) × Bool × Unit) × List (Int × Int × List UInt8 × Unit) × List (List UInt8 × Int) × Unit
abbrev Sc3:Type:=List UInt8 × Bool × Int × Int × Bool × Int × Int × Int × Int × Int × Int × Bool × Int × List UInt8 × List UInt8 × Int × Int × Int × List (List UInt8 × Int × Unit) × Bool × Bool × List (List (NdT) × Bool × Unit) × List (Sc1) × List (Int × Int × List UInt8 × Unit) × List (Int × Int × List UInt8 × Unit) × List (List UInt8 × Int) × List (List UInt8 × Int) × Unit
abbrev Sc4:Type:=List UInt8 × Bool × Int × Bool × Int × Int × Int × Int × Int × Int × Bool × Int × List UInt8 × List UInt8 × Int × Int × Int × List (List UInt8 × Int × Unit) × Bool × Bool × List (List (NdT) × Bool × Unit) × List (Int × Int × List UInt8 × Unit) × List (List UInt8 × Int) × Unit
abbrev Sc5:Type:=Int × Int × List UInt8 × Unit
abbrev Sc6:Type:=List UInt8 × List (Int) × Unit
def dD (n:Nat) (x:List UInt8×Sc0):Option (Bool×Sc0) :=let yWm:=x.1
 let s2:=x.2.1
 let at4:=x.2.2.2.1
 br (decide (at4<(s2.length:Int))) (chk (inB at4 s2.length) (let v28:Int:=((aV 0 s2 at4).toNat:Int)
 ob (strings_IndexByte n (yWm,v28)) fun y29 =>some ((decide (y29≥0)),x.2))) (some (false,x.2))
def lM (n:Nat) (x:List UInt8×Int):Option (List UInt8×Int) :=let s_0:=x.1
 let uI:=x.2
 br (decide (uI < 0)) (chk ((decide (0<=(s_0.length:Int))&&decide ((s_0.length:Int)<=(s_0.length:Int)))) (let v1:List UInt8:=s_0.drop (s_0.length:Int).toNat
 some (v1,(s_0.length:Int)))) (br (decide (uI>(s_0.length:Int))) (chk ((decide (0<=(s_0.length:Int))&&decide ((s_0.length:Int)<=(s_0.length:Int)))) (let v2:List UInt8:=s_0.drop (s_0.length:Int).toNat
 some (v2,(s_0.length:Int)))) (chk ((decide (0<=uI)&&decide (uI<=(s_0.length:Int)))) (some (s_0.drop uI.toNat,uI))))
def Si (n:Nat) (g0:List UInt8×Int×Unit->Option (List UInt8)) (x1:List UInt8×Int×Unit):Option (List UInt8) :=let s_2:=x1.1
 let c_3:=x1.2.1
 br (decide ((s_2.length:Int) > 0)) (chk (inB 0 s_2.length) (let v4:Int:=((aV 0 s_2 0).toNat:Int)
 br (v4==c_3) (chk ((decide (0<=(1:Int))&&decide ((1:Int)<=(s_2.length:Int)))) (g0 (s_2.drop (1:Int).toNat,c_3,()))) (some s_2))) (some s_2)
def strings_trimLeftByte (n:Nat) (x:List UInt8×Int):Option (List UInt8) :=let s_0:=x.1
 let c_1:=x.2
 fix (Si n) n (s_0,c_1,())
def Sj (n:Nat) (g0:List UInt8×Int×List (Bool)×Unit->Option (List (Bool)×Bool)) (x1:List UInt8×Int×List (Bool)×Unit):Option (List (Bool)×Bool) :=let zKl:=x1.1
 let i_3:=x1.2.1
 let b4:=x1.2.2.1
 br (decide (i_3<(zKl.length:Int))) (chk (inB i_3 zKl.length) (let v5:Int:=((aV 0 zKl i_3).toNat:Int)
 br (decide (v5≥128)) (some (b4,false)) (chk (inB v5 256) (chk (decide (v5.toNat < 256)) (let v6:Int:=IntKind.wrap .i64 (i_3+1)
 g0 (zKl,v6,b4.set (v5.toNat) true,())))))) (some (b4,true))
def strings_makeASCIISet (n:Nat) (x:List UInt8):Option (List (Bool)×Bool) :=let yWn:=x
 fix (Sj n) n (yWn,0,(List.replicate 256 false),())
def gB (n:Nat) (x:Int×List (Bool)×Unit):Option (Bool×List (Bool)×Unit) :=let c_1:=x.1
 let b2:=x.2.1
 chk (inB c_1 256) (chk (decide (c_1.toNat < 256)) (some (b2.getD (c_1.toNat) (Ty.dflt .bool),b2,())))
def mK (n:Nat) (g0:List UInt8×List (Bool)×Unit->Option (List UInt8×List (Bool)×Unit)) (x3:List UInt8×List (Bool)×Unit):Option (List UInt8×List (Bool)×Unit) :=let s_4:=x3.1
 let b5:=x3.2.1
 br (decide ((s_4.length:Int) > 0)) (chk (inB 0 s_4.length) (let v6:Int:=((aV 0 s_4 0).toNat:Int)
 ob (gB n (v6,b5,())) fun y7 =>br (!y7.1) (some (s_4,y7.2.1,())) (chk ((decide (0<=(1:Int))&&decide ((1:Int)<=(s_4.length:Int)))) (g0 (s_4.drop (1:Int).toNat,y7.2.1,()))))) (some (s_4,b5,()))
def strings_trimLeftASCII (n:Nat) (x:List UInt8×List (Bool)×Unit):Option (List UInt8×List (Bool)×Unit) :=let s_1:=x.1
 let b2:=x.2.1
 fix (mK n) n (s_1,b2,())
def jP (n:Nat) (x:List UInt8×List UInt8):Option (List UInt8) :=let s_0:=x.1
 let kT:=x.2
 br (s_0==[]) (some s_0) (br (kT==[]) (some s_0) (br ((kT.length:Int)==1) (chk (inB 0 kT.length) (let v1:Int:=((aV 0 kT 0).toNat:Int)
 br (decide (v1 < 128)) (chk (inB 0 kT.length) (let v2:Int:=((aV 0 kT 0).toNat:Int)
 ob (strings_trimLeftByte n (s_0,v2)) fun y3 =>some y3)) (ob (strings_makeASCIISet n kT) fun y4 =>br y4.2 (ob (strings_trimLeftASCII n (s_0,y4.1,())) fun y5 =>some y5.1) (none)))) (ob (strings_makeASCIISet n kT) fun y6 =>br y6.2 (ob (strings_trimLeftASCII n (s_0,y6.1,())) fun y7 =>some y7.1) (none))))
def nA (n:Nat) (x:List UInt8×Int):Option (Int) :=let s_0:=x.1
 let uI:=x.2
 ob (lM n (s_0,uI)) fun y1 =>ob (jP n (y1.1,[32,9])) fun y2 =>let v3:Int:=IntKind.wrap .i64 ((s_0.length:Int)-(y2.length:Int))
 some v3
def bL (n:Nat) (x:Sc0):Option (Sc0) :=let s1:=x.1
 let wM:=x.2.1
 let at3:=x.2.2.1
 ob (nA n (s1,at3)) fun y27 =>some (s1,wM,y27,x.2.2.2)
def Qs (n:Nat) (g0:List UInt8×Int×Unit->Option (List UInt8)) (x1:List UInt8×Int×Unit):Option (List UInt8) :=let s_2:=x1.1
 let c_3:=x1.2.1
 br (decide ((s_2.length:Int) > 0)) (let v4:Int:=IntKind.wrap .i64 ((s_2.length:Int) - 1)
 chk (inB v4 s_2.length) (let v5:Int:=((aV 0 s_2 v4).toNat:Int)
 br (v5==c_3) (let v6:Int:=IntKind.wrap .i64 ((s_2.length:Int) - 1)
 chk ((decide (0<=v6)&&decide (v6<=(s_2.length:Int)))) (g0 (s_2.take v6.toNat,c_3,()))) (some s_2))) (some s_2)
def strings_trimRightByte (n:Nat) (x:List UInt8×Int):Option (List UInt8) :=let s_0:=x.1
 let c_1:=x.2
 fix (Qs n) n (s_0,c_1,())
def rE (n:Nat) (g0:List UInt8×List (Bool)×Unit->Option (List UInt8×List (Bool)×Unit)) (x3:List UInt8×List (Bool)×Unit):Option (List UInt8×List (Bool)×Unit) :=let s_4:=x3.1
 let b5:=x3.2.1
 br (decide ((s_4.length:Int) > 0)) (let v6:Int:=IntKind.wrap .i64 ((s_4.length:Int) - 1)
 chk (inB v6 s_4.length) (let v7:Int:=((aV 0 s_4 v6).toNat:Int)
 ob (gB n (v7,b5,())) fun y8 =>br (!y8.1) (some (s_4,y8.2.1,())) (let v9:Int:=IntKind.wrap .i64 ((s_4.length:Int) - 1)
 chk ((decide (0<=v9)&&decide (v9<=(s_4.length:Int)))) (g0 (s_4.take v9.toNat,y8.2.1,()))))) (some (s_4,b5,()))
def strings_trimRightASCII (n:Nat) (x:List UInt8×List (Bool)×Unit):Option (List UInt8×List (Bool)×Unit) :=let s_1:=x.1
 let b2:=x.2.1
 fix (rE n) n (s_1,b2,())
def kC (n:Nat) (x:List UInt8×List UInt8):Option (List UInt8) :=let s_0:=x.1
 let kT:=x.2
 br (s_0==[]) (some s_0) (br (kT==[]) (some s_0) (br ((kT.length:Int)==1) (chk (inB 0 kT.length) (let v1:Int:=((aV 0 kT 0).toNat:Int)
 br (decide (v1 < 128)) (chk (inB 0 kT.length) (let v2:Int:=((aV 0 kT 0).toNat:Int)
 ob (strings_trimRightByte n (s_0,v2)) fun y3 =>some y3)) (ob (strings_makeASCIISet n kT) fun y4 =>br y4.2 (ob (strings_trimRightASCII n (s_0,y4.1,())) fun y5 =>some y5.1) (none)))) (ob (strings_makeASCIISet n kT) fun y6 =>br y6.2 (ob (strings_trimRightASCII n (s_0,y6.1,())) fun y7 =>some y7.1) (none))))
def nK (n:Nat) (g0:Int×List UInt8×List UInt8×Int×Unit->Option (List UInt8×Int)) (x2:Int×List UInt8×List UInt8×Int×Unit):Option (List UInt8×Int) :=let yJr:=x2.1
 let yNk:=x2.2.1
 let Bd:=x2.2.2.1
 let i_6:=x2.2.2.2.1
 br (decide (i_6<(Bd.length:Int))) (chk (inB i_6 Bd.length) (let v7:Int:=((aV 0 Bd i_6).toNat:Int)
 br (v7 != 10) (chk (inB i_6 Bd.length) (let v8:Int:=((aV 0 Bd i_6).toNat:Int)
 ob (strings_IndexByte n (yNk,v8)) fun y9 =>br (decide (y9 < 0)) (let v10:Int:=IntKind.wrap .i64 (i_6+1)
 g0 (yJr,yNk,Bd,v10,())) (chk ((decide (0<=i_6)&&decide (i_6<=(Bd.length:Int)))) (ob (kC n (Bd.take i_6.toNat,[32,9])) fun y11 =>let v12:Int:=IntKind.wrap .i64 (yJr+i_6)
 some (y11,v12))))) (chk ((decide (0<=i_6)&&decide (i_6<=(Bd.length:Int)))) (ob (kC n (Bd.take i_6.toNat,[32,9])) fun y13 =>let v14:Int:=IntKind.wrap .i64 (yJr+i_6)
 some (y13,v14))))) (chk ((decide (0<=i_6)&&decide (i_6<=(Bd.length:Int)))) (ob (kC n (Bd.take i_6.toNat,[32,9])) fun y15 =>let v16:Int:=IntKind.wrap .i64 (yJr+i_6)
 some (y15,v16)))
def rR (n:Nat) (x:List UInt8×Int×List UInt8):Option (List UInt8×Int) :=let s_0:=x.1
 let uI:=x.2.1
 let yAl:=x.2.2
 ob (lM n (s_0,uI)) fun y1 =>fix (nK n) n (y1.2,yAl,y1.1,0,())
def eB (n:Nat) (x:List UInt8×Sc0):Option (List UInt8×Sc0) :=let yAo:=x.1
 ob (bL n (x.2)) fun y28 =>ob (rR n (y28.1,y28.2.2.1,yAo)) fun y29 =>some (y29.1,y28.1,y28.2.1,y29.2,y28.2.2.2)
def Dy (n:Nat) (x:List UInt8×Int):Option (Int×Int×Int) :=let s_0:=x.1
 let uI:=x.2
 ob (lM n (s_0,uI)) fun y1 =>ob (jP n (y1.1,[48,49,50,51,52,53,54,55,56,57])) fun y2 =>let v3:Int:=IntKind.wrap .i64 ((y1.1.length:Int)-(y2.length:Int))
 chk ((decide (0<=v3)&&decide (v3<=(y1.1.length:Int)))) (ob (tX n (y1.1.take v3.toNat,10,64)) fun y4 =>br ((y1.1.take v3.toNat)==[]) (some (0,y1.2,3)) (br (!(!y4.2)) (some (0,y1.2,1)) (br (decide (y4.1 > 999999999)) (some (0,y1.2,1)) (let v5:Int:=((y1.1.take v3.toNat).length:Int)
 let v6:Int:=IntKind.wrap .i64 (y1.2+v5)
 some (IntKind.wrap .i64 y4.1,v6,0)))))
def aW (_n:Nat) (x:Int×Unit):Option (Sum (Unit) (Int×Unit)):=some (.inr x)
def dY (n:Nat) (x:Int×Sc0):Option (Sum (Int×Sc0) (Int×Sc0)) :=let yWo:=x.1
 let s2:=x.2.1
 let yAp:=x.2.2.1
 let at4:=x.2.2.2.1
 ob (Dy n (s2,at4)) fun y28 =>br (y28.2.2 != 0) (ob2 (aW n (yWo,())) (fun y29 =>none) (fun y29 =>some (.inr (y29.1,x.2)))) (some (.inl (y28.1,s2,yAp,y28.2.1,x.2.2.2.2)))
def dH (n:Nat) (x:List UInt8×Sc0):Option (Bool×Sc0) :=ob (dD n (x)) fun y28 =>br (!y28.1) (some (false,y28.2)) (let v29:Int:=IntKind.wrap .i64 (y28.2.2.2.1+1)
 some (true,y28.2.1,y28.2.2.1,v29,y28.2.2.2.2))
def fO (n:Nat) (x:Sc0):Option (Sum (Int×Sc0) (Int×Sc0)) :=let s1:=x.1
 let wM:=x.2.1
 let at3:=x.2.2.1
 br (at3==(s1.length:Int)) (ob2 (aW n (120,())) (fun y27 =>none) (fun y27 =>some (.inr (y27.1,x)))) (let v28:Int:=IntKind.wrap .i64 (at3+1)
 let v29:Int:=IntKind.wrap .i64 (v28 - 1)
 chk (inB v29 s1.length) (let v30:Int:=((aV 0 s1 v29).toNat:Int)
 some (.inl (v30,s1,wM,v28,x.2.2.2))))
def eP (n:Nat) (x:Sc6):Option (Int×Bool×List (Int)×Unit) :=let s_1:=x.1
 let Lh:=x.2.1
 ob (Iy n (Lh,())) fun y3 =>chk (Nat.ble ((y3.1.length+s_1.length) * 1) room) (some ((s_1.length:Int),false,y3.1++eG s_1,()))
def sH (n:Nat) (x:List UInt8×Sc6):Option (Bool×Sc6) :=let Li:=x.1
 let b2:=x.2.1
 let zNj:=x.2.2.1
 br (Li==b2) (some (false,b2,zNj,())) (br (Li==[10]) (some (false,b2,zNj,())) (br (Li==[92]) (some (false,b2,zNj,())) (chk (decide ([92].length+b2.length<=qK)) (br (Li==([92]++b2)) (ob (eP n (b2,zNj,())) fun y4 =>some (true,b2,y4.2.2.1,())) (ob (eP n (Li,zNj,())) fun y5 =>some (true,b2,y5.2.2.1,()))))))
def wG (n:Nat) (g0:List UInt8×Int×List UInt8×List (Int)×Unit->Option (Int×Sc6)) (x4:List UInt8×Int×Sc6):Option (Int×Sc6) :=let s_5:=x4.1
 let i_6:=x4.2.1
 let b7:=x4.2.2.1
 let yRm:=x4.2.2.2.1
 br (decide (i_6<(s_5.length:Int))) (chk (inB i_6 s_5.length) (let v9:Int:=((aV 0 s_5 i_6).toNat:Int)
 br (v9==92) (let v10:Int:=IntKind.wrap .i64 (i_6+1)
 br (decide (v10<(s_5.length:Int))) (let v11:Int:=IntKind.wrap .i64 (i_6+2)
 chk ((decide (0<=v11)&&decide (v11<=(s_5.length:Int))&&(decide (0<=i_6)&&decide (i_6<=v11)))) (let v12:List UInt8:=(s_5.take v11.toNat).drop i_6.toNat
 ob (sH n (v12,b7,yRm,())) fun y13 =>br (!y13.1) (some (i_6,y13.2.1,y13.2.2.1,())) (let v14:Int:=IntKind.wrap .i64 (i_6+2)
 g0 (s_5,v14,y13.2.1,y13.2.2.1,())))) (let v15:Int:=IntKind.wrap .i64 (i_6+1)
 chk ((decide (0<=v15)&&decide (v15<=(s_5.length:Int))&&(decide (0<=i_6)&&decide (i_6<=v15)))) (let v16:List UInt8:=(s_5.take v15.toNat).drop i_6.toNat
 ob (sH n (v16,b7,yRm,())) fun y17 =>br (!y17.1) (some (i_6,y17.2.1,y17.2.2.1,())) (let v18:Int:=IntKind.wrap .i64 (i_6+1)
 g0 (s_5,v18,y17.2.1,y17.2.2.1,()))))) (let v19:Int:=IntKind.wrap .i64 (i_6+1)
 chk ((decide (0<=v19)&&decide (v19<=(s_5.length:Int))&&(decide (0<=i_6)&&decide (i_6<=v19)))) (let v20:List UInt8:=(s_5.take v19.toNat).drop i_6.toNat
 ob (sH n (v20,b7,yRm,())) fun y21 =>br (!y21.1) (some (i_6,y21.2.1,y21.2.2.1,())) (let v22:Int:=IntKind.wrap .i64 (i_6+1)
 g0 (s_5,v22,y21.2.1,y21.2.2.1,())))))) (some (x4.2))
def kG (n:Nat) (x:List UInt8×Sc6):Option (Int×Sc6) :=let s_1:=x.1
 let b2:=x.2.1
 let zNj:=x.2.2.1
 fix (wG n) n (s_1,0,b2,zNj,())
def Lj (n:Nat) (x:List UInt8×Int×Int):Option (List UInt8×Int×Int) :=let s_0:=x.1
 let uI:=x.2.1
 let d_2:=x.2.2
 ob (lM n (s_0,uI)) fun y1 =>br ((bN [d_2])==[92]) (some ([],y1.2,120)) (br ((bN [d_2])==[10]) (some ([],y1.2,120)) (ob (kG n (y1.1,bN [d_2],[],())) fun y2 =>chk ((decide (0<=y2.1)&&decide (y2.1<=(y1.1.length:Int)))) (ob (strings_HasPrefix n (y1.1.drop y2.1.toNat,y2.2.1)) fun y3 =>br (!y3) (some ([],y1.2,120)) (ob (Builder_String n (y2.2.2.1,())) fun y4 =>let v5:Int:=IntKind.wrap .i64 (y1.2+y2.1)
 let v6:Int:=IntKind.wrap .i64 (v5+1)
 some (y4.1,v6,0)))))
def iF (n:Nat) (x:Int×Unit):Option (Sum (Unit) (Int×Unit)) :=let e_1:=x.1
 br (e_1 != 0) (ob2 (aW n (e_1,())) (fun y2 =>none) (fun y2 =>some (.inr (y2.1,())))) (some (.inl ()))
def fA (n:Nat) (x:Int×Sc0):Option (Sum (List UInt8×Sc0) (Int×Sc0)) :=let d_1:=x.1
 let s2:=x.2.1
 let yAp:=x.2.2.1
 let at4:=x.2.2.2.1
 ob (Lj n (s2,at4,d_1)) fun y28 =>ob2 (iF n (y28.2.2,())) (fun y29 =>some (.inl (y28.1,s2,yAp,y28.2.1,x.2.2.2.2))) (fun y29 =>some (.inr (y29.1,x.2)))
def fT (n:Nat) (x:Int×Sc0):Option (Sum (Int×Sc0) (Int×Sc0)) :=let yAp:=x.2.2.1
 br yAp (ob2 (fA n (x)) (fun y28 =>none) (fun y28 =>some (.inr (y28)))) (ob2 (fA n (x)) (fun y29 =>ob (Ke n y29.1) fun y30 =>ob2 (iF n (y30.2.2,())) (fun y31 =>let v32:Int:=((y29.2.2.2.2.2.2.2.2.2.2.2.2.2.2.2.2.2.2.2.2.2.2.1.length:Nat):Int)
 br (v32==999) (ob2 (aW n (2,())) (fun y33 =>none) (fun y33 =>some (.inr (y33.1,y29.2)))) (chk (Nat.ble ((y29.2.2.2.2.2.2.2.2.2.2.2.2.2.2.2.2.2.2.2.2.2.2.1.length+([(y30.1,(false,()))]:List (List (NdT)×Bool×Unit)).length) * 32) room) (let r34:List (List (NdT)×Bool×Unit):=y29.2.2.2.2.2.2.2.2.2.2.2.2.2.2.2.2.2.2.2.2.2.2.1++[(y30.1,(false,()))]
 let v35:Int:=((r34.length:Nat):Int)
 let v36:Int:=IntKind.wrap .i64 (v35 - 1)
 some (.inl (v36,y29.2.1,y29.2.2.1,y29.2.2.2.1,y29.2.2.2.2.1,y29.2.2.2.2.2.1,y29.2.2.2.2.2.2.1,y29.2.2.2.2.2.2.2.1,y29.2.2.2.2.2.2.2.2.1,y29.2.2.2.2.2.2.2.2.2.1,y29.2.2.2.2.2.2.2.2.2.2.1,y29.2.2.2.2.2.2.2.2.2.2.2.1,y29.2.2.2.2.2.2.2.2.2.2.2.2.1,y29.2.2.2.2.2.2.2.2.2.2.2.2.2.1,y29.2.2.2.2.2.2.2.2.2.2.2.2.2.2.1,y29.2.2.2.2.2.2.2.2.2.2.2.2.2.2.2.1,y29.2.2.2.2.2.2.2.2.2.2.2.2.2.2.2.2.1,y29.2.2.2.2.2.2.2.2.2.2.2.2.2.2.2.2.2.1,y29.2.2.2.2.2.2.2.2.2.2.2.2.2.2.2.2.2.2.1,y29.2.2.2.2.2.2.2.2.2.2.2.2.2.2.2.2.2.2.2.1,y29.2.2.2.2.2.2.2.2.2.2.2.2.2.2.2.2.2.2.2.2.1,y29.2.2.2.2.2.2.2.2.2.2.2.2.2.2.2.2.2.2.2.2.2.1,r34,y29.2.2.2.2.2.2.2.2.2.2.2.2.2.2.2.2.2.2.2.2.2.2.2))))) (fun y31 =>some (.inr (y31.1,y29.2)))) (fun y29 =>some (.inr (y29))))
def iC (n:Nat) (x:Sc0):Option (Sc0) :=let s1:=x.1
 let wM:=x.2.1
 let at3:=x.2.2.1
 let pE:=x.2.2.2.1
 let tY:=x.2.2.2.2.1
 let yT:=x.2.2.2.2.2.1
 let N7:=x.2.2.2.2.2.2.1
 let M8:=x.2.2.2.2.2.2.2.1
 let yU:=x.2.2.2.2.2.2.2.2.1
 let N10:=x.2.2.2.2.2.2.2.2.2.1
 let M11:=x.2.2.2.2.2.2.2.2.2.2.1
 let yV:=x.2.2.2.2.2.2.2.2.2.2.2.1
 let Dz:=x.2.2.2.2.2.2.2.2.2.2.2.2.1
 let tZ:=x.2.2.2.2.2.2.2.2.2.2.2.2.2.1
 let uD:=x.2.2.2.2.2.2.2.2.2.2.2.2.2.2.1
 let N16:=x.2.2.2.2.2.2.2.2.2.2.2.2.2.2.2.1
 let Wj:=x.2.2.2.2.2.2.2.2.2.2.2.2.2.2.2.2.1
 let Gc:=x.2.2.2.2.2.2.2.2.2.2.2.2.2.2.2.2.2.1
 let uY:=x.2.2.2.2.2.2.2.2.2.2.2.2.2.2.2.2.2.2.1
 let Gd:=x.2.2.2.2.2.2.2.2.2.2.2.2.2.2.2.2.2.2.2.1
 let uZ:=x.2.2.2.2.2.2.2.2.2.2.2.2.2.2.2.2.2.2.2.2.1
 let qI:=x.2.2.2.2.2.2.2.2.2.2.2.2.2.2.2.2.2.2.2.2.2.1
 let v27:Int:=((qI.length:Nat):Int)
 let v28:Int:=IntKind.wrap .i64 (v27 - 1)
 chk ((inB v28 (qI.length)&&decide (0+(qI.length)<=qI.length))) (chk (decide (0+v28.toNat<qI.length)) (let r29:List (List (NdT)×Bool×Unit):=qI.set (0+v28.toNat) ((qI.getD (0+v28.toNat) (Ty.dflt bQ)).1,(true,()))
 some (s1,wM,at3,pE,tY,yT,N7,M8,yU,N10,M11,yV,Dz,tZ,uD,N16,Wj,Gc,uY,Gd,uZ,r29,x.2.2.2.2.2.2.2.2.2.2.2.2.2.2.2.2.2.2.2.2.2.2)))
def jC (n:Nat) (x43:Bool×Bool×List UInt8×Bool×Int×Int×Bool×Int×Int×Int×Int×Int×Int×Bool×Int×List UInt8×List UInt8×Int×Int×Int×List (List UInt8×Int×Unit)×Bool×Bool×List (List (NdT)×Bool×Unit)×List (Sc1)×List (Sc5)×List (Sc5)×List (List UInt8×Int)×Int×Int×Int×Unit):Option (Sum (Int×Int×Int×Bool×Sc0) (Int×Sc0)) :=let yNl:=x43.1
 let yZc:=x43.2.1
 let s46:=x43.2.2.1
 let yJs:=x43.2.2.2.1
 let yRn:=x43.2.2.2.2.1
 let zTc:=x43.2.2.2.2.2.1
 let zTd:=x43.2.2.2.2.2.2.1
 let yAq:=x43.2.2.2.2.2.2.2.1
 let N52:=x43.2.2.2.2.2.2.2.2.1
 let M53:=x43.2.2.2.2.2.2.2.2.2.1
 let yAr:=x43.2.2.2.2.2.2.2.2.2.2.1
 let N55:=x43.2.2.2.2.2.2.2.2.2.2.2.1
 let M56:=x43.2.2.2.2.2.2.2.2.2.2.2.2.1
 let yJt:=x43.2.2.2.2.2.2.2.2.2.2.2.2.2.1
 let yRo:=x43.2.2.2.2.2.2.2.2.2.2.2.2.2.2.1
 let yAs:=x43.2.2.2.2.2.2.2.2.2.2.2.2.2.2.2.1
 let yAt:=x43.2.2.2.2.2.2.2.2.2.2.2.2.2.2.2.2.1
 let N61:=x43.2.2.2.2.2.2.2.2.2.2.2.2.2.2.2.2.2.1
 let yRp:=x43.2.2.2.2.2.2.2.2.2.2.2.2.2.2.2.2.2.2.1
 let yJu:=x43.2.2.2.2.2.2.2.2.2.2.2.2.2.2.2.2.2.2.2.1
 let zTe:=x43.2.2.2.2.2.2.2.2.2.2.2.2.2.2.2.2.2.2.2.2.1
 let yJv:=x43.2.2.2.2.2.2.2.2.2.2.2.2.2.2.2.2.2.2.2.2.2.1
 let zTf:=x43.2.2.2.2.2.2.2.2.2.2.2.2.2.2.2.2.2.2.2.2.2.2.1
 let yJw:=x43.2.2.2.2.2.2.2.2.2.2.2.2.2.2.2.2.2.2.2.2.2.2.2.1
 let yJx:=x43.2.2.2.2.2.2.2.2.2.2.2.2.2.2.2.2.2.2.2.2.2.2.2.2.1
 let yJy:=x43.2.2.2.2.2.2.2.2.2.2.2.2.2.2.2.2.2.2.2.2.2.2.2.2.2.1
 let yJz:=x43.2.2.2.2.2.2.2.2.2.2.2.2.2.2.2.2.2.2.2.2.2.2.2.2.2.2.1
 let yKa:=x43.2.2.2.2.2.2.2.2.2.2.2.2.2.2.2.2.2.2.2.2.2.2.2.2.2.2.2.1
 let yNm:=x43.2.2.2.2.2.2.2.2.2.2.2.2.2.2.2.2.2.2.2.2.2.2.2.2.2.2.2.2.1
 let N73:=x43.2.2.2.2.2.2.2.2.2.2.2.2.2.2.2.2.2.2.2.2.2.2.2.2.2.2.2.2.2.1
 let M74:=x43.2.2.2.2.2.2.2.2.2.2.2.2.2.2.2.2.2.2.2.2.2.2.2.2.2.2.2.2.2.2.1
 br yZc (ob2 (dY n (121,s46,yJs,yRn,zTc,zTd,yAq,N52,M53,yAr,N55,M56,yJt,yRo,yAs,yAt,N61,yRp,yJu,zTe,yJv,zTf,yJw,yJx,yJy,yJz,yKa,())) (fun y75 =>some (.inl (5,y75.1,0,true,y75.2))) (fun y75 =>some (.inr (y75)))) (br yNl (ob (dH n ([126],s46,yJs,yRn,zTc,zTd,yAq,N52,M53,yAr,N55,M56,yJt,yRo,yAs,yAt,N61,yRp,yJu,zTe,yJv,zTf,yJw,yJx,yJy,yJz,yKa,())) fun y76 =>br y76.1 (ob2 (dY n (121,y76.2)) (fun y77 =>some (.inl (6,y77.1,0,true,y77.2))) (fun y77 =>some (.inr (y77)))) (some (.inl (yNm,N73,M74,false,y76.2)))) (some (.inl (yNm,N73,M74,false,s46,yJs,yRn,zTc,zTd,yAq,N52,M53,yAr,N55,M56,yJt,yRo,yAs,yAt,N61,yRp,yJu,zTe,yJv,zTf,yJw,yJx,yJy,yJz,yKa,()))))
def kM (n:Nat) (x:Bool×Sc0):Option (Sum (Int×Int×Int×Bool×Sc0) (Int×Sc0)) :=let zNk:=x.1
 ob (dD n ([48,49,50,51,52,53,54,55,56,57],x.2)) fun y28 =>br y28.1 (ob2 (dY n (121,y28.2)) (fun y29 =>ob (dH n ([126],y29.2)) fun y30 =>br y30.1 (ob2 (dY n (121,y30.2)) (fun y31 =>some (.inl (3,y29.1,y31.1,true,y31.2))) (fun y31 =>some (.inr (y31)))) (some (.inl (1,y29.1,0,true,y30.2)))) (fun y29 =>some (.inr (y29)))) (ob (dH n ([36],y28.2)) fun y32 =>br y32.1 (some (.inl (2,0,0,true,y32.2))) (ob (dD n ([47,92],y32.2)) fun y33 =>br y33.1 (ob2 (fO n (y33.2)) (fun y34 =>br (y34.1==92) (ob2 (fO n (y34.2)) (fun y35 =>ob2 (fT n (y35)) (fun y36 =>ob (dH n ([73],y36.2)) fun y37 =>br y37.1 (ob (iC n (y37.2)) fun y38 =>some (.inl (4,y36.1,0,true,y38))) (some (.inl (4,y36.1,0,true,y37.2)))) (fun y36 =>some (.inr (y36)))) (fun y35 =>some (.inr (y35)))) (ob2 (fT n (y34)) (fun y39 =>ob (dH n ([73],y39.2)) fun y40 =>br y40.1 (ob (iC n (y40.2)) fun y41 =>some (.inl (4,y39.1,0,true,y41))) (some (.inl (4,y39.1,0,true,y40.2)))) (fun y39 =>some (.inr (y39))))) (fun y34 =>some (.inr (y34)))) (br zNk (ob (dH n ([43],y33.2)) fun y42 =>jn (jC n) (zNk,y42.1,y42.2.1,y42.2.2.1,y42.2.2.2.1,y42.2.2.2.2.1,y42.2.2.2.2.2.1,y42.2.2.2.2.2.2.1,y42.2.2.2.2.2.2.2.1,y42.2.2.2.2.2.2.2.2.1,y42.2.2.2.2.2.2.2.2.2.1,y42.2.2.2.2.2.2.2.2.2.2.1,y42.2.2.2.2.2.2.2.2.2.2.2.1,y42.2.2.2.2.2.2.2.2.2.2.2.2.1,y42.2.2.2.2.2.2.2.2.2.2.2.2.2.1,y42.2.2.2.2.2.2.2.2.2.2.2.2.2.2.1,y42.2.2.2.2.2.2.2.2.2.2.2.2.2.2.2.1,y42.2.2.2.2.2.2.2.2.2.2.2.2.2.2.2.2.1,y42.2.2.2.2.2.2.2.2.2.2.2.2.2.2.2.2.2.1,y42.2.2.2.2.2.2.2.2.2.2.2.2.2.2.2.2.2.2.1,y42.2.2.2.2.2.2.2.2.2.2.2.2.2.2.2.2.2.2.2.1,y42.2.2.2.2.2.2.2.2.2.2.2.2.2.2.2.2.2.2.2.2.1,y42.2.2.2.2.2.2.2.2.2.2.2.2.2.2.2.2.2.2.2.2.2.1,y42.2.2.2.2.2.2.2.2.2.2.2.2.2.2.2.2.2.2.2.2.2.2.1,y42.2.2.2.2.2.2.2.2.2.2.2.2.2.2.2.2.2.2.2.2.2.2.2.1,y42.2.2.2.2.2.2.2.2.2.2.2.2.2.2.2.2.2.2.2.2.2.2.2.2.1,y42.2.2.2.2.2.2.2.2.2.2.2.2.2.2.2.2.2.2.2.2.2.2.2.2.2.1,y42.2.2.2.2.2.2.2.2.2.2.2.2.2.2.2.2.2.2.2.2.2.2.2.2.2.2.1,0,0,0,())) (jn (jC n) (zNk,false,y33.2.1,y33.2.2.1,y33.2.2.2.1,y33.2.2.2.2.1,y33.2.2.2.2.2.1,y33.2.2.2.2.2.2.1,y33.2.2.2.2.2.2.2.1,y33.2.2.2.2.2.2.2.2.1,y33.2.2.2.2.2.2.2.2.2.1,y33.2.2.2.2.2.2.2.2.2.2.1,y33.2.2.2.2.2.2.2.2.2.2.2.1,y33.2.2.2.2.2.2.2.2.2.2.2.2.1,y33.2.2.2.2.2.2.2.2.2.2.2.2.2.1,y33.2.2.2.2.2.2.2.2.2.2.2.2.2.2.1,y33.2.2.2.2.2.2.2.2.2.2.2.2.2.2.2.1,y33.2.2.2.2.2.2.2.2.2.2.2.2.2.2.2.2.1,y33.2.2.2.2.2.2.2.2.2.2.2.2.2.2.2.2.2.1,y33.2.2.2.2.2.2.2.2.2.2.2.2.2.2.2.2.2.2.1,y33.2.2.2.2.2.2.2.2.2.2.2.2.2.2.2.2.2.2.2.1,y33.2.2.2.2.2.2.2.2.2.2.2.2.2.2.2.2.2.2.2.2.1,y33.2.2.2.2.2.2.2.2.2.2.2.2.2.2.2.2.2.2.2.2.2.1,y33.2.2.2.2.2.2.2.2.2.2.2.2.2.2.2.2.2.2.2.2.2.2.1,y33.2.2.2.2.2.2.2.2.2.2.2.2.2.2.2.2.2.2.2.2.2.2.2.1,y33.2.2.2.2.2.2.2.2.2.2.2.2.2.2.2.2.2.2.2.2.2.2.2.2.1,y33.2.2.2.2.2.2.2.2.2.2.2.2.2.2.2.2.2.2.2.2.2.2.2.2.2.1,y33.2.2.2.2.2.2.2.2.2.2.2.2.2.2.2.2.2.2.2.2.2.2.2.2.2.2.1,0,0,0,())))))
def wU (n:Nat) (x:Int×Int×Int×Unit):Option (Bool) :=let a_0:=x
 br (decide (a_0.1 < 0)) (some false) (br (decide (a_0.1≥7)) (some false) (chk (inB a_0.1 7) (chk (decide (a_0.1.toNat < 7)) (br (decide (a_0.2.1≥0)) (chk (inB 0 2) (chk (decide ((0:Int).toNat < 2)) (let v1:Int:=((((((((([[0,0],[0,0],[0,0],[0,0],[0,0],[0,0],[0,0]]:List (List (Int))).set 0 ([0,0])).set 1 ((([0,0]:List (Int)).set 0 999999999).set 1 0)).set 2 ([0,0])).set 3 ((([0,0]:List (Int)).set 0 999999999).set 1 999999999)).set 4 ((([0,0]:List (Int)).set 0 999).set 1 0)).set 5 ((([0,0]:List (Int)).set 0 999999999).set 1 0)).set 6 ((([0,0]:List (Int)).set 0 999999999).set 1 0)).getD (a_0.1.toNat) (Ty.dflt (.arr 2 (.int .i64)))).getD ((0:Int).toNat) (Ty.dflt (.int .i64))
 br (decide (a_0.2.1<=v1)) (br (decide (a_0.2.2.1≥0)) (chk (inB 1 2) (chk (decide ((1:Int).toNat < 2)) (let v2:Int:=((((((((([[0,0],[0,0],[0,0],[0,0],[0,0],[0,0],[0,0]]:List (List (Int))).set 0 ([0,0])).set 1 ((([0,0]:List (Int)).set 0 999999999).set 1 0)).set 2 ([0,0])).set 3 ((([0,0]:List (Int)).set 0 999999999).set 1 999999999)).set 4 ((([0,0]:List (Int)).set 0 999).set 1 0)).set 5 ((([0,0]:List (Int)).set 0 999999999).set 1 0)).set 6 ((([0,0]:List (Int)).set 0 999999999).set 1 0)).getD (a_0.1.toNat) (Ty.dflt (.arr 2 (.int .i64)))).getD ((1:Int).toNat) (Ty.dflt (.int .i64))
 some (decide (a_0.2.2.1<=v2))))) (some false)) (some false)))) (some false)))))
def Oc (n:Nat) (x:(Int×Int×Int×Unit)×(Int×Int×Int×Unit)×Bool×Unit):Option (Bool) :=let r_0:=x
 ob (wU n r_0.1) fun y1 =>br (!y1) (some false) (ob (wU n r_0.2.1) fun y2 =>br (!y2) (some false) (br (decide (r_0.1.1 > 4)) (some false) (br (r_0.2.1.1==3) (some false) (br (r_0.1.1==0) (some (r_0.2.1.1==0)) (br (Ty.beq Wi r_0.1 (1,(0,(0,())))) (some (r_0.2.1.1==4)) (some true))))))
def lX (n:Nat) (x:Sc0):Option (Sum (Int×Sc0) (Int×Sc0)) :=ob2 (kM n (false,x)) (fun y27 =>br (!y27.2.2.2.1) (some (.inl (0,y27.2.2.2.2))) (ob (bL n (y27.2.2.2.2.1,y27.2.2.2.2.2.1,y27.2.2.2.2.2.2.1,y27.2.2.2.2.2.2.2.1,y27.2.2.2.2.2.2.2.2.1,y27.1,y27.2.1,y27.2.2.1,y27.2.2.2.2.2.2.2.2.2.2.2.2)) fun y28 =>ob (dH n ([44],y28)) fun y29 =>br y29.1 (ob (bL n (y29.2)) fun y30 =>ob2 (kM n (true,y30)) (fun y31 =>br (!y31.2.2.2.1) (ob2 (aW n (121,())) (fun y32 =>none) (fun y32 =>some (.inr (y32.1,y31.2.2.2.2.1,y31.2.2.2.2.2.1,y31.2.2.2.2.2.2.1,y31.2.2.2.2.2.2.2.1,y31.2.2.2.2.2.2.2.2.1,y31.2.2.2.2.2.2.2.2.2.1,y31.2.2.2.2.2.2.2.2.2.2.1,y31.2.2.2.2.2.2.2.2.2.2.2.1,y31.1,y31.2.1,y31.2.2.1,y31.2.2.2.2.2.2.2.2.2.2.2.2.2.2.2)))) (ob (Oc n ((y31.2.2.2.2.2.2.2.2.2.1,(y31.2.2.2.2.2.2.2.2.2.2.1,(y31.2.2.2.2.2.2.2.2.2.2.2.1,()))),((y31.1,(y31.2.1,(y31.2.2.1,()))),(y31.2.2.2.2.2.2.2.2.2.2.2.2.2.2.2.1,())))) fun y33 =>br (!y33) (ob2 (aW n (121,())) (fun y34 =>none) (fun y34 =>some (.inr (y34.1,y31.2.2.2.2.1,y31.2.2.2.2.2.1,y31.2.2.2.2.2.2.1,y31.2.2.2.2.2.2.2.1,y31.2.2.2.2.2.2.2.2.1,y31.2.2.2.2.2.2.2.2.2.1,y31.2.2.2.2.2.2.2.2.2.2.1,y31.2.2.2.2.2.2.2.2.2.2.2.1,y31.1,y31.2.1,y31.2.2.1,y31.2.2.2.2.2.2.2.2.2.2.2.2.2.2.2)))) (some (.inl (2,y31.2.2.2.2.1,y31.2.2.2.2.2.1,y31.2.2.2.2.2.2.1,y31.2.2.2.2.2.2.2.1,y31.2.2.2.2.2.2.2.2.1,y31.2.2.2.2.2.2.2.2.2.1,y31.2.2.2.2.2.2.2.2.2.2.1,y31.2.2.2.2.2.2.2.2.2.2.2.1,y31.1,y31.2.1,y31.2.2.1,y31.2.2.2.2.2.2.2.2.2.2.2.2.2.2.2))))) (fun y31 =>some (.inr (y31)))) (ob (Oc n ((y29.2.2.2.2.2.2.1,(y29.2.2.2.2.2.2.2.1,(y29.2.2.2.2.2.2.2.2.1,()))),((y29.2.2.2.2.2.2.2.2.2.1,(y29.2.2.2.2.2.2.2.2.2.2.1,(y29.2.2.2.2.2.2.2.2.2.2.2.1,()))),(y29.2.2.2.2.2.2.2.2.2.2.2.2.1,())))) fun y35 =>br (!y35) (ob2 (aW n (121,())) (fun y36 =>none) (fun y36 =>some (.inr (y36.1,y29.2)))) (some (.inl (1,y29.2)))))) (fun y27 =>some (.inr (y27)))
def bZ (n:Nat) (x:Sc0):Option (Sc0) :=let s1:=x.1
 let wM:=x.2.1
 let at3:=x.2.2.1
 let pE:=x.2.2.2.1
 let tY:=x.2.2.2.2.1
 let yT:=x.2.2.2.2.2.1
 let N7:=x.2.2.2.2.2.2.1
 let M8:=x.2.2.2.2.2.2.2.1
 let yU:=x.2.2.2.2.2.2.2.2.1
 let N10:=x.2.2.2.2.2.2.2.2.2.1
 let M11:=x.2.2.2.2.2.2.2.2.2.2.1
 let yV:=x.2.2.2.2.2.2.2.2.2.2.2.1
 let Dz:=x.2.2.2.2.2.2.2.2.2.2.2.2.1
 let tZ:=x.2.2.2.2.2.2.2.2.2.2.2.2.2.1
 let uD:=x.2.2.2.2.2.2.2.2.2.2.2.2.2.2.1
 let N16:=x.2.2.2.2.2.2.2.2.2.2.2.2.2.2.2.1
 let Wj:=x.2.2.2.2.2.2.2.2.2.2.2.2.2.2.2.2.1
 let Gc:=x.2.2.2.2.2.2.2.2.2.2.2.2.2.2.2.2.2.1
 let uY:=x.2.2.2.2.2.2.2.2.2.2.2.2.2.2.2.2.2.2.1
 let Gd:=x.2.2.2.2.2.2.2.2.2.2.2.2.2.2.2.2.2.2.2.1
 let uZ:=x.2.2.2.2.2.2.2.2.2.2.2.2.2.2.2.2.2.2.2.2.1
 let qI:=x.2.2.2.2.2.2.2.2.2.2.2.2.2.2.2.2.2.2.2.2.2.1
 let iL:=x.2.2.2.2.2.2.2.2.2.2.2.2.2.2.2.2.2.2.2.2.2.2.1
 chk (Nat.ble ((iL.length+([(((yT,(N7,(M8,()))),((yU,(N10,(M11,()))),(yV,()))),(Dz,(tZ,(uD,(N16,(Wj,(Gc,(uY,(Gd,(uZ,()))))))))))]:List (Sc1)).length) * 152) room) (let r27:List (Sc1):=iL++[(((yT,(N7,(M8,()))),((yU,(N10,(M11,()))),(yV,()))),(Dz,(tZ,(uD,(N16,(Wj,(Gc,(uY,(Gd,(uZ,()))))))))))]
 some (s1,wM,at3,pE,tY,yT,N7,M8,yU,N10,M11,yV,Dz,tZ,uD,N16,Wj,Gc,uY,Gd,uZ,qI,r27,x.2.2.2.2.2.2.2.2.2.2.2.2.2.2.2.2.2.2.2.2.2.2.2))
def mQ (n:Nat) (x:Sc0):Option (Sc0) :=let s1:=x.1
 let wM:=x.2.1
 let at3:=x.2.2.1
 let pE:=x.2.2.2.1
 let tY:=x.2.2.2.2.1
 let yT:=x.2.2.2.2.2.1
 let N7:=x.2.2.2.2.2.2.1
 let M8:=x.2.2.2.2.2.2.2.1
 let yU:=x.2.2.2.2.2.2.2.2.1
 let N10:=x.2.2.2.2.2.2.2.2.2.1
 let M11:=x.2.2.2.2.2.2.2.2.2.2.1
 let yV:=x.2.2.2.2.2.2.2.2.2.2.2.1
 let Dz:=x.2.2.2.2.2.2.2.2.2.2.2.2.1
 let tZ:=x.2.2.2.2.2.2.2.2.2.2.2.2.2.1
 let uD:=x.2.2.2.2.2.2.2.2.2.2.2.2.2.2.1
 let N16:=x.2.2.2.2.2.2.2.2.2.2.2.2.2.2.2.1
 let Wj:=x.2.2.2.2.2.2.2.2.2.2.2.2.2.2.2.2.1
 let Gc:=x.2.2.2.2.2.2.2.2.2.2.2.2.2.2.2.2.2.1
 let uY:=x.2.2.2.2.2.2.2.2.2.2.2.2.2.2.2.2.2.2.1
 let Gd:=x.2.2.2.2.2.2.2.2.2.2.2.2.2.2.2.2.2.2.2.1
 let uZ:=x.2.2.2.2.2.2.2.2.2.2.2.2.2.2.2.2.2.2.2.2.1
 let qI:=x.2.2.2.2.2.2.2.2.2.2.2.2.2.2.2.2.2.2.2.2.2.1
 let iL:=x.2.2.2.2.2.2.2.2.2.2.2.2.2.2.2.2.2.2.2.2.2.2.1
 let yX:=x.2.2.2.2.2.2.2.2.2.2.2.2.2.2.2.2.2.2.2.2.2.2.2.1
 let Ug:=x.2.2.2.2.2.2.2.2.2.2.2.2.2.2.2.2.2.2.2.2.2.2.2.2.1
 let zEc:=x.2.2.2.2.2.2.2.2.2.2.2.2.2.2.2.2.2.2.2.2.2.2.2.2.2.1
 let v27:Int:=((iL.length:Nat):Int)
 chk (Nat.ble ((yX.length+([(v27,(pE,([],())))]:List (Sc5)).length) * 32) room) (let r28:List (Sc5):=yX++[(v27,(pE,([],())))]
 ob (bZ n (s1,wM,at3,pE,tY,yT,N7,M8,yU,N10,M11,yV,Dz,tZ,uD,N16,Wj,Gc,uY,Gd,uZ,qI,iL,r28,Ug,zEc,())) fun y29 =>some (y29))
def qN (n:Nat) (x:Sc0):Option (Sum (Sc0) (Int×Sc0)) :=let s1:=x.1
 let wM:=x.2.1
 let at3:=x.2.2.1
 let pE:=x.2.2.2.1
 let tY:=x.2.2.2.2.1
 let yT:=x.2.2.2.2.2.1
 let N7:=x.2.2.2.2.2.2.1
 let M8:=x.2.2.2.2.2.2.2.1
 let yU:=x.2.2.2.2.2.2.2.2.1
 let N10:=x.2.2.2.2.2.2.2.2.2.1
 let M11:=x.2.2.2.2.2.2.2.2.2.2.1
 let yV:=x.2.2.2.2.2.2.2.2.2.2.2.1
 let Dz:=x.2.2.2.2.2.2.2.2.2.2.2.2.1
 let tZ:=x.2.2.2.2.2.2.2.2.2.2.2.2.2.1
 let uD:=x.2.2.2.2.2.2.2.2.2.2.2.2.2.2.1
 let N16:=x.2.2.2.2.2.2.2.2.2.2.2.2.2.2.2.1
 let Gc:=x.2.2.2.2.2.2.2.2.2.2.2.2.2.2.2.2.2.1
 let uY:=x.2.2.2.2.2.2.2.2.2.2.2.2.2.2.2.2.2.2.1
 let Gd:=x.2.2.2.2.2.2.2.2.2.2.2.2.2.2.2.2.2.2.2.1
 let uZ:=x.2.2.2.2.2.2.2.2.2.2.2.2.2.2.2.2.2.2.2.2.1
 let qI:=x.2.2.2.2.2.2.2.2.2.2.2.2.2.2.2.2.2.2.2.2.2.1
 let iL:=x.2.2.2.2.2.2.2.2.2.2.2.2.2.2.2.2.2.2.2.2.2.2.1
 let yX:=x.2.2.2.2.2.2.2.2.2.2.2.2.2.2.2.2.2.2.2.2.2.2.2.1
 let Ug:=x.2.2.2.2.2.2.2.2.2.2.2.2.2.2.2.2.2.2.2.2.2.2.2.2.1
 let zEc:=x.2.2.2.2.2.2.2.2.2.2.2.2.2.2.2.2.2.2.2.2.2.2.2.2.2.1
 let v27:Int:=((yX.length:Nat):Int)
 let v28:Int:=IntKind.wrap .i64 (v27 - 1)
 br (decide (v28 < 0)) (ob2 (aW n (123,())) (fun y29 =>none) (fun y29 =>some (.inr (y29.1,x)))) (chk ((inB v28 (yX.length)&&decide (0+(yX.length)<=yX.length))) (chk (decide (0+v28.toNat<yX.length)) (let v30:Int:=(yX.getD (0+v28.toNat) (Ty.dflt gP)).1
 let v31:Int:=((iL.length:Nat):Int)
 chk ((inB v30 (iL.length)&&decide (0+(iL.length)<=iL.length))) (chk (decide (0+v30.toNat<iL.length)) (let r32:List (Sc1):=iL.set (0+v30.toNat) ((((iL.getD (0+v30.toNat) (Ty.dflt aC)).1.1.1,((iL.getD (0+v30.toNat) (Ty.dflt aC)).1.1.2.1,((iL.getD (0+v30.toNat) (Ty.dflt aC)).1.1.2.2.1,()))),(((iL.getD (0+v30.toNat) (Ty.dflt aC)).1.2.1.1,((iL.getD (0+v30.toNat) (Ty.dflt aC)).1.2.1.2.1,((iL.getD (0+v30.toNat) (Ty.dflt aC)).1.2.1.2.2.1,()))),((iL.getD (0+v30.toNat) (Ty.dflt aC)).1.2.2.1,()))),((iL.getD (0+v30.toNat) (Ty.dflt aC)).2.1,((iL.getD (0+v30.toNat) (Ty.dflt aC)).2.2.1,((iL.getD (0+v30.toNat) (Ty.dflt aC)).2.2.2.1,((iL.getD (0+v30.toNat) (Ty.dflt aC)).2.2.2.2.1,(v31,((iL.getD (0+v30.toNat) (Ty.dflt aC)).2.2.2.2.2.2.1,((iL.getD (0+v30.toNat) (Ty.dflt aC)).2.2.2.2.2.2.2.1,((iL.getD (0+v30.toNat) (Ty.dflt aC)).2.2.2.2.2.2.2.2.1,((iL.getD (0+v30.toNat) (Ty.dflt aC)).2.2.2.2.2.2.2.2.2.1,()))))))))))
 chk ((decide (0<=v28)&&decide (v28<=(yX.length:Int)))) (chk (Nat.ble (v28.toNat) yX.length) (ob (bZ n (s1,wM,at3,pE,tY,yT,N7,M8,yU,N10,M11,yV,Dz,tZ,uD,N16,v30,Gc,uY,Gd,uZ,qI,r32,yX.take (v28.toNat),Ug,zEc,())) fun y33 =>some (.inl (y33)))))))))
def sI (n:Nat) (x:Sc0):Option (Sum (List UInt8×Sc0) (Int×Sc0)) :=ob (eB n ([59,125],x)) fun y27 =>ob (strings_ContainsAny n (y27.1,[32,9])) fun y28 =>br y28 (ob2 (aW n (122,())) (fun y29 =>none) (fun y29 =>some (.inr (y29.1,y27.2)))) (some (.inl (y27)))
def eH (n:Nat) (x:Sc0):Option (Sum (Sc0) (Int×Sc0)) :=ob (bL n (x)) fun y27 =>br (decide (y27.2.2.1<(y27.1.length:Int))) (ob (dD n ([10,59,35,125],y27)) fun y28 =>br (!y28.1) (ob2 (aW n (120,())) (fun y29 =>none) (fun y29 =>some (.inr (y29.1,y28.2)))) (some (.inl (y28.2)))) (some (.inl (y27)))
def qO (n:Nat) (x:Sc0):Option (Sum (Sc0) (Int×Sc0)) :=ob2 (sI n (x)) (fun y27 =>let v28:Int:=jK .str 0 y27.2.2.2.2.2.2.2.2.2.2.2.2.2.2.2.2.2.2.2.2.2.2.2.2.2.2.1 y27.1
 br (zSl .str y27.2.2.2.2.2.2.2.2.2.2.2.2.2.2.2.2.2.2.2.2.2.2.2.2.2.2.1 y27.1) (ob2 (aW n (122,())) (fun y29 =>none) (fun y29 =>some (.inr (y29.1,y27.2)))) (br (y27.1==[]) (ob2 (aW n (122,())) (fun y30 =>none) (fun y30 =>some (.inr (y30.1,y27.2)))) (let v31:Int:=((y27.2.2.2.2.2.2.2.2.2.2.2.2.2.2.2.2.2.2.2.2.2.2.2.1.length:Nat):Int)
 ob2 (eH n (y27.2.1,y27.2.2.1,y27.2.2.2.1,y27.2.2.2.2.1,y27.2.2.2.2.2.1,y27.2.2.2.2.2.2.1,y27.2.2.2.2.2.2.2.1,y27.2.2.2.2.2.2.2.2.1,y27.2.2.2.2.2.2.2.2.2.1,y27.2.2.2.2.2.2.2.2.2.2.1,y27.2.2.2.2.2.2.2.2.2.2.2.1,y27.2.2.2.2.2.2.2.2.2.2.2.2.1,y27.2.2.2.2.2.2.2.2.2.2.2.2.2.1,y27.2.2.2.2.2.2.2.2.2.2.2.2.2.2.1,y27.2.2.2.2.2.2.2.2.2.2.2.2.2.2.2.1,y27.2.2.2.2.2.2.2.2.2.2.2.2.2.2.2.2.1,y27.2.2.2.2.2.2.2.2.2.2.2.2.2.2.2.2.2.1,y27.2.2.2.2.2.2.2.2.2.2.2.2.2.2.2.2.2.2.1,y27.2.2.2.2.2.2.2.2.2.2.2.2.2.2.2.2.2.2.2.1,y27.2.2.2.2.2.2.2.2.2.2.2.2.2.2.2.2.2.2.2.2.1,y27.2.2.2.2.2.2.2.2.2.2.2.2.2.2.2.2.2.2.2.2.2.1,y27.2.2.2.2.2.2.2.2.2.2.2.2.2.2.2.2.2.2.2.2.2.2.1,y27.2.2.2.2.2.2.2.2.2.2.2.2.2.2.2.2.2.2.2.2.2.2.2.1,y27.2.2.2.2.2.2.2.2.2.2.2.2.2.2.2.2.2.2.2.2.2.2.2.2.1,y27.2.2.2.2.2.2.2.2.2.2.2.2.2.2.2.2.2.2.2.2.2.2.2.2.2.1,wK .str y27.2.2.2.2.2.2.2.2.2.2.2.2.2.2.2.2.2.2.2.2.2.2.2.2.2.2.1 y27.1 v31,())) (fun y32 =>some (.inl (y32))) (fun y32 =>some (.inr (y32)))))) (fun y27 =>some (.inr (y27)))
def qD (n:Nat) (x:List UInt8×List (List UInt8×Int×Unit)×Unit):Option (List UInt8×List (List UInt8×Int×Unit)×Unit) :=let b1:=x.1
 let Lh:=x.2.1
 br (!(b1==[])) (chk (Nat.ble ((Lh.length+([(b1,((-1),()))]:List (List UInt8×Int×Unit)).length) * 24) room) (let r3:List (List UInt8×Int×Unit):=Lh++[(b1,((-1),()))]
 some ([],r3,()))) (some ([],Lh,()))
def Td (n:Nat) (g0:List UInt8×Int×List UInt8×List (List UInt8×Int×Unit)×Unit->Option (List (List UInt8×Int×Unit)×Int×Int)) (x1:List UInt8×Int×List UInt8×List (List UInt8×Int×Unit)×Unit):Option (List (List UInt8×Int×Unit)×Int×Int) :=let s_2:=x1.1
 let i_3:=x1.2.1
 let b4:=x1.2.2.1
 let Ji:=x1.2.2.2.1
 br (decide (i_3<(s_2.length:Int))) (chk (inB i_3 s_2.length) (let v6:Int:=((aV 0 s_2 i_3).toNat:Int)
 br (v6==38) (ob (qD n (b4,Ji,())) fun y7 =>chk (Nat.ble ((y7.2.1.length+([([],(0,()))]:List (List UInt8×Int×Unit)).length) * 24) room) (let r8:List (List UInt8×Int×Unit):=y7.2.1++[([],(0,()))]
 let v9:Int:=IntKind.wrap .i64 (i_3+1)
 g0 (s_2,v9,y7.1,r8,()))) (br (v6==10) (some ([],i_3,90)) (br (v6 != 92) (chk (decide (b4.length+(bN [v6]).length<=qK)) (let v10:Int:=IntKind.wrap .i64 (i_3+1)
 g0 (s_2,v10,b4++(bN [v6]),Ji,()))) (let v11:Int:=IntKind.wrap .i64 (i_3+1)
 br (v11==(s_2.length:Int)) (let v12:Int:=IntKind.wrap .i64 (v11 - 1)
 some ([],v12,90)) (chk (inB v11 s_2.length) (let v13:Int:=((aV 0 s_2 v11).toNat:Int)
 br (decide (v13≥49)) (br (decide (v13<=57)) (ob (qD n (b4,Ji,())) fun y14 =>let v15:Int:=IntKind.wrap .u8 (v13 - 48)
 chk (Nat.ble ((y14.2.1.length+([([],(IntKind.wrap .i64 v15,()))]:List (List UInt8×Int×Unit)).length) * 24) room) (let r16:List (List UInt8×Int×Unit):=y14.2.1++[([],(IntKind.wrap .i64 v15,()))]
 let v17:Int:=IntKind.wrap .i64 (v11+1)
 g0 (s_2,v17,y14.1,r16,()))) (br (v13==110) (chk (decide (b4.length+(bN [10]).length<=qK)) (let v18:Int:=IntKind.wrap .i64 (v11+1)
 g0 (s_2,v18,b4++(bN [10]),Ji,()))) (ob (strings_IndexByte n ([10,92,38,47],v13)) fun y19 =>br (decide (y19 < 0)) (let v20:Int:=IntKind.wrap .i64 (v11 - 1)
 some ([],v20,90)) (chk (decide (b4.length+(bN [v13]).length<=qK)) (let v21:Int:=IntKind.wrap .i64 (v11+1)
 g0 (s_2,v21,b4++(bN [v13]),Ji,())))))) (br (v13==110) (chk (decide (b4.length+(bN [10]).length<=qK)) (let v22:Int:=IntKind.wrap .i64 (v11+1)
 g0 (s_2,v22,b4++(bN [10]),Ji,()))) (ob (strings_IndexByte n ([10,92,38,47],v13)) fun y23 =>br (decide (y23 < 0)) (let v24:Int:=IntKind.wrap .i64 (v11 - 1)
 some ([],v24,90)) (chk (decide (b4.length+(bN [v13]).length<=qK)) (let v25:Int:=IntKind.wrap .i64 (v11+1)
 g0 (s_2,v25,b4++(bN [v13]),Ji,())))))))))))) (ob (qD n (b4,Ji,())) fun y26 =>some (y26.2.1,0,0))
def Ig (n:Nat) (x:List UInt8):Option (List (List UInt8×Int×Unit)×Int×Int) :=let s_0:=x
 fix (Td n) n (s_0,0,[],[],())
def Wm(n:Nat)(g0:Int × List (List UInt8 × Int × Unit) × Int × Int × Unit->Option (Int))(x1:Int × List (List UInt8 × Int × Unit) × Int × Int × Unit):Option (Int):=
 let n_2:Int:=x1.1
 let zSz:List (List UInt8 × Int × Unit):=x1.2.1
 let zEb:Int:=x1.2.2.1
 let zNl:Int:=x1.2.2.2.1
 br (decide (zNl<zEb)) (
  chk (inB zNl zSz.length) (
   let v6:List UInt8 × Int × Unit:=aV (Ty.dflt oF) zSz zNl
   let v7:Int:=if v6.2.1>n_2 then v6.2.1 else n_2
   let v8:Int:=IntKind.wrap .i64 (zNl+1)
   g0 (v7,zSz,zEb,v8,()))) (
  some n_2)
def Ll (n:Nat) (x:List (List UInt8×Int×Unit)):Option (Int) :=let l_0:=x
 fix (Wm n) n (0,l_0,(l_0.length:Int),0,())
def oH (n:Nat) (g0:List UInt8×Bool×Int×Int×Bool×Int×Int×Int×Int×Int×Int×Bool×Int×List UInt8×List UInt8×Int×Int×Int×List (List UInt8×Int×Unit)×Bool×Bool×List (List (NdT)×Bool×Unit)×List (Sc1)×List (Sc5)×List (Sc5)×List (List UInt8×Int)×List (List UInt8×Int)×Unit->Option (Sum (Bool×Sc0) (Int×Sc0))) (x92:List UInt8×Sc3):Option (Sum (Bool×Sc0) (Int×Sc0)) :=let zKm:=x92.1
 let s94:=x92.2.1
 let zPu:=x92.2.2.1
 let yAu:=x92.2.2.2.1
 let zBn:=x92.2.2.2.2.1
 let zBo:=x92.2.2.2.2.2.1
 let zHr:=x92.2.2.2.2.2.2.1
 let yAv:=x92.2.2.2.2.2.2.2.1
 let yAw:=x92.2.2.2.2.2.2.2.2.1
 let zBp:=x92.2.2.2.2.2.2.2.2.2.1
 let yAx:=x92.2.2.2.2.2.2.2.2.2.2.1
 let yAy:=x92.2.2.2.2.2.2.2.2.2.2.2.1
 let zHs:=x92.2.2.2.2.2.2.2.2.2.2.2.2.1
 let zPv:=x92.2.2.2.2.2.2.2.2.2.2.2.2.2.1
 let zBq:=x92.2.2.2.2.2.2.2.2.2.2.2.2.2.2.1
 let zBr:=x92.2.2.2.2.2.2.2.2.2.2.2.2.2.2.2.1
 let yAz:=x92.2.2.2.2.2.2.2.2.2.2.2.2.2.2.2.2.1
 let zPw:=x92.2.2.2.2.2.2.2.2.2.2.2.2.2.2.2.2.2.1
 let zHt:=x92.2.2.2.2.2.2.2.2.2.2.2.2.2.2.2.2.2.2.1
 let Wn:=x92.2.2.2.2.2.2.2.2.2.2.2.2.2.2.2.2.2.2.2.1
 let zPx:=x92.2.2.2.2.2.2.2.2.2.2.2.2.2.2.2.2.2.2.2.2.1
 let zEd:=x92.2.2.2.2.2.2.2.2.2.2.2.2.2.2.2.2.2.2.2.2.2.1
 let zHu:=x92.2.2.2.2.2.2.2.2.2.2.2.2.2.2.2.2.2.2.2.2.2.2.1
 let Qt:=x92.2.2.2.2.2.2.2.2.2.2.2.2.2.2.2.2.2.2.2.2.2.2.2.1
 let Lm:=x92.2.2.2.2.2.2.2.2.2.2.2.2.2.2.2.2.2.2.2.2.2.2.2.2.1
 let Qu:=x92.2.2.2.2.2.2.2.2.2.2.2.2.2.2.2.2.2.2.2.2.2.2.2.2.2.1
 let zHv:=x92.2.2.2.2.2.2.2.2.2.2.2.2.2.2.2.2.2.2.2.2.2.2.2.2.2.2.1
 let Lp:=x92.2.2.2.2.2.2.2.2.2.2.2.2.2.2.2.2.2.2.2.2.2.2.2.2.2.2.2.1
 br (zKm==[103]) (g0 (s94,zPu,yAu,zBn,zBo,zHr,yAv,yAw,zBp,yAx,yAy,zHs,zPv,zBq,zBr,yAz,zPw,zHt,Wn,true,zEd,zHu,Qt,Lm,Qu,zHv,Lp,())) (br (zKm==[112]) (g0 (s94,zPu,yAu,zBn,zBo,zHr,yAv,yAw,zBp,yAx,yAy,zHs,zPv,zBq,zBr,yAz,zPw,zHt,Wn,zPx,true,zHu,Qt,Lm,Qu,zHv,Lp,())) (br (zKm==[73]) (ob (iC n (s94,zPu,yAu,zBn,zBo,zHr,yAv,yAw,zBp,yAx,yAy,zHs,zPv,zBq,zBr,yAz,zPw,zHt,Wn,zPx,zEd,zHu,Qt,Lm,Qu,zHv,())) fun qF =>g0 (qF.1,qF.2.1,qF.2.2.1,qF.2.2.2.1,qF.2.2.2.2.1,qF.2.2.2.2.2.1,qF.2.2.2.2.2.2.1,qF.2.2.2.2.2.2.2.1,qF.2.2.2.2.2.2.2.2.1,qF.2.2.2.2.2.2.2.2.2.1,qF.2.2.2.2.2.2.2.2.2.2.1,qF.2.2.2.2.2.2.2.2.2.2.2.1,qF.2.2.2.2.2.2.2.2.2.2.2.2.1,qF.2.2.2.2.2.2.2.2.2.2.2.2.2.1,qF.2.2.2.2.2.2.2.2.2.2.2.2.2.2.1,qF.2.2.2.2.2.2.2.2.2.2.2.2.2.2.2.1,qF.2.2.2.2.2.2.2.2.2.2.2.2.2.2.2.2.1,qF.2.2.2.2.2.2.2.2.2.2.2.2.2.2.2.2.2.1,qF.2.2.2.2.2.2.2.2.2.2.2.2.2.2.2.2.2.2.1,qF.2.2.2.2.2.2.2.2.2.2.2.2.2.2.2.2.2.2.2.1,qF.2.2.2.2.2.2.2.2.2.2.2.2.2.2.2.2.2.2.2.2.1,qF.2.2.2.2.2.2.2.2.2.2.2.2.2.2.2.2.2.2.2.2.2.1,qF.2.2.2.2.2.2.2.2.2.2.2.2.2.2.2.2.2.2.2.2.2.2.1,qF.2.2.2.2.2.2.2.2.2.2.2.2.2.2.2.2.2.2.2.2.2.2.2.1,qF.2.2.2.2.2.2.2.2.2.2.2.2.2.2.2.2.2.2.2.2.2.2.2.2.1,qF.2.2.2.2.2.2.2.2.2.2.2.2.2.2.2.2.2.2.2.2.2.2.2.2.2.1,Lp,())) (br (zKm==[119]) (ob (eB n ([],s94,zPu,yAu,zBn,zBo,zHr,yAv,yAw,zBp,yAx,yAy,zHs,zPv,zBq,zBr,yAz,zPw,zHt,Wn,zPx,zEd,zHu,Qt,Lm,Qu,zHv,())) fun fD =>br (fD.1==[]) (ob2 (aW n (124,())) (fun yZd =>none) (fun yZd =>some (.inr (yZd.1,fD.2.1,fD.2.2.1,fD.2.2.2.1,fD.2.2.2.2.1,fD.2.2.2.2.2.1,fD.2.2.2.2.2.2.1,fD.2.2.2.2.2.2.2.1,fD.2.2.2.2.2.2.2.2.1,fD.2.2.2.2.2.2.2.2.2.1,fD.2.2.2.2.2.2.2.2.2.2.1,fD.2.2.2.2.2.2.2.2.2.2.2.1,fD.2.2.2.2.2.2.2.2.2.2.2.2.1,fD.2.2.2.2.2.2.2.2.2.2.2.2.2.1,fD.1,fD.2.2.2.2.2.2.2.2.2.2.2.2.2.2.2.1,fD.2.2.2.2.2.2.2.2.2.2.2.2.2.2.2.2.1,fD.2.2.2.2.2.2.2.2.2.2.2.2.2.2.2.2.2.1,fD.2.2.2.2.2.2.2.2.2.2.2.2.2.2.2.2.2.2.1,fD.2.2.2.2.2.2.2.2.2.2.2.2.2.2.2.2.2.2.2.1,fD.2.2.2.2.2.2.2.2.2.2.2.2.2.2.2.2.2.2.2.2.1,fD.2.2.2.2.2.2.2.2.2.2.2.2.2.2.2.2.2.2.2.2.2.1,fD.2.2.2.2.2.2.2.2.2.2.2.2.2.2.2.2.2.2.2.2.2.2.1,fD.2.2.2.2.2.2.2.2.2.2.2.2.2.2.2.2.2.2.2.2.2.2.2.1,fD.2.2.2.2.2.2.2.2.2.2.2.2.2.2.2.2.2.2.2.2.2.2.2.2.1,fD.2.2.2.2.2.2.2.2.2.2.2.2.2.2.2.2.2.2.2.2.2.2.2.2.2.1,fD.2.2.2.2.2.2.2.2.2.2.2.2.2.2.2.2.2.2.2.2.2.2.2.2.2.2.1,())))) (some (.inl (true,fD.2.1,fD.2.2.1,fD.2.2.2.1,fD.2.2.2.2.1,fD.2.2.2.2.2.1,fD.2.2.2.2.2.2.1,fD.2.2.2.2.2.2.2.1,fD.2.2.2.2.2.2.2.2.1,fD.2.2.2.2.2.2.2.2.2.1,fD.2.2.2.2.2.2.2.2.2.2.1,fD.2.2.2.2.2.2.2.2.2.2.2.1,fD.2.2.2.2.2.2.2.2.2.2.2.2.1,fD.2.2.2.2.2.2.2.2.2.2.2.2.2.1,fD.1,fD.2.2.2.2.2.2.2.2.2.2.2.2.2.2.2.1,fD.2.2.2.2.2.2.2.2.2.2.2.2.2.2.2.2.1,fD.2.2.2.2.2.2.2.2.2.2.2.2.2.2.2.2.2.1,fD.2.2.2.2.2.2.2.2.2.2.2.2.2.2.2.2.2.2.1,fD.2.2.2.2.2.2.2.2.2.2.2.2.2.2.2.2.2.2.2.1,fD.2.2.2.2.2.2.2.2.2.2.2.2.2.2.2.2.2.2.2.2.1,fD.2.2.2.2.2.2.2.2.2.2.2.2.2.2.2.2.2.2.2.2.2.1,fD.2.2.2.2.2.2.2.2.2.2.2.2.2.2.2.2.2.2.2.2.2.2.1,fD.2.2.2.2.2.2.2.2.2.2.2.2.2.2.2.2.2.2.2.2.2.2.2.1,fD.2.2.2.2.2.2.2.2.2.2.2.2.2.2.2.2.2.2.2.2.2.2.2.2.1,fD.2.2.2.2.2.2.2.2.2.2.2.2.2.2.2.2.2.2.2.2.2.2.2.2.2.1,fD.2.2.2.2.2.2.2.2.2.2.2.2.2.2.2.2.2.2.2.2.2.2.2.2.2.2.1,())))) (g0 (s94,zPu,yAu,zBn,zBo,zHr,yAv,yAw,zBp,yAx,yAy,zHs,zPv,zBq,zBr,yAz,zPw,zHt,Wn,zPx,zEd,zHu,Qt,Lm,Qu,zHv,Lp,())))))
def fK (n:Nat) (g0:List UInt8×Bool×Int×Int×Bool×Int×Int×Int×Int×Int×Int×Bool×Int×List UInt8×List UInt8×Int×Int×Int×List (List UInt8×Int×Unit)×Bool×Bool×List (List (NdT)×Bool×Unit)×List (Sc1)×List (Sc5)×List (Sc5)×List (List UInt8×Int)×List (List UInt8×Int)×Unit->Option (Sum (Bool×Sc0) (Int×Sc0))) (x58:List UInt8×Sc3):Option (Sum (Bool×Sc0) (Int×Sc0)) :=let zBs:=x58.1
 let s60:=x58.2.1
 let zPy:=x58.2.2.1
 let yBa:=x58.2.2.2.1
 let zBt:=x58.2.2.2.2.1
 let zBu:=x58.2.2.2.2.2.1
 let zHw:=x58.2.2.2.2.2.2.1
 let N66:=x58.2.2.2.2.2.2.2.1
 let M67:=x58.2.2.2.2.2.2.2.2.1
 let zHx:=x58.2.2.2.2.2.2.2.2.2.1
 let N69:=x58.2.2.2.2.2.2.2.2.2.2.1
 let M70:=x58.2.2.2.2.2.2.2.2.2.2.2.1
 let zPz:=x58.2.2.2.2.2.2.2.2.2.2.2.2.1
 let yBb:=x58.2.2.2.2.2.2.2.2.2.2.2.2.2.1
 let yBc:=x58.2.2.2.2.2.2.2.2.2.2.2.2.2.2.1
 let yBd:=x58.2.2.2.2.2.2.2.2.2.2.2.2.2.2.2.1
 let N75:=x58.2.2.2.2.2.2.2.2.2.2.2.2.2.2.2.2.1
 let yRq:=x58.2.2.2.2.2.2.2.2.2.2.2.2.2.2.2.2.2.1
 let yKb:=x58.2.2.2.2.2.2.2.2.2.2.2.2.2.2.2.2.2.2.1
 let zTg:=x58.2.2.2.2.2.2.2.2.2.2.2.2.2.2.2.2.2.2.2.1
 let yKc:=x58.2.2.2.2.2.2.2.2.2.2.2.2.2.2.2.2.2.2.2.2.1
 let zTh:=x58.2.2.2.2.2.2.2.2.2.2.2.2.2.2.2.2.2.2.2.2.2.1
 let yKd:=x58.2.2.2.2.2.2.2.2.2.2.2.2.2.2.2.2.2.2.2.2.2.2.1
 let yKe:=x58.2.2.2.2.2.2.2.2.2.2.2.2.2.2.2.2.2.2.2.2.2.2.2.1
 let yKf:=x58.2.2.2.2.2.2.2.2.2.2.2.2.2.2.2.2.2.2.2.2.2.2.2.2.1
 let yKg:=x58.2.2.2.2.2.2.2.2.2.2.2.2.2.2.2.2.2.2.2.2.2.2.2.2.2.1
 let yKh:=x58.2.2.2.2.2.2.2.2.2.2.2.2.2.2.2.2.2.2.2.2.2.2.2.2.2.2.1
 let yKi:=x58.2.2.2.2.2.2.2.2.2.2.2.2.2.2.2.2.2.2.2.2.2.2.2.2.2.2.2.1
 let v87:Int:=jK .str 0 yKi zBs
 let v88:Int:=IntKind.wrap .i64 (v87+1)
 let v89:Int:=jK .str 0 (wK .str yKi zBs v88) zBs
 br (decide (v89 > 1)) (ob2 (aW n (124,())) (fun y90 =>none) (fun y90 =>some (.inr (y90.1,s60,zPy,yBa,zBt,zBu,zHw,N66,M67,zHx,N69,M70,zPz,yBb,yBc,yBd,N75,yRq,yKb,zTg,yKc,zTh,yKd,yKe,yKf,yKg,yKh,())))) (br (N75==0) (ob2 (aW n (124,())) (fun y91 =>none) (fun y91 =>some (.inr (y91.1,s60,zPy,yBa,zBt,zBu,zHw,N66,M67,zHx,N69,M70,zPz,yBb,yBc,yBd,N75,yRq,yKb,zTg,yKc,zTh,yKd,yKe,yKf,yKg,yKh,())))) (jn (oH n g0) (zBs,s60,zPy,yBa,zBt,zBu,zHw,N66,M67,zHx,N69,M70,zPz,yBb,yBc,yBd,N75,yRq,yKb,zTg,yKc,zTh,yKd,yKe,yKf,yKg,yKh,wK .str yKi zBs v88,())))
def Da (n:Nat) (g0:List UInt8×Bool×Int×Int×Bool×Int×Int×Int×Int×Int×Int×Bool×Int×List UInt8×List UInt8×Int×Int×Int×List (List UInt8×Int×Unit)×Bool×Bool×List (List (NdT)×Bool×Unit)×List (Sc1)×List (Sc5)×List (Sc5)×List (List UInt8×Int)×List (List UInt8×Int)×Unit->Option (Sum (Bool×Sc0) (Int×Sc0))) (x27:Sc3):Option (Sum (Bool×Sc0) (Int×Sc0)) :=let s28:=x27.1
 let xCb:=x27.2.1
 let yJq:=x27.2.2.1
 let yWp:=x27.2.2.2.1
 let yWq:=x27.2.2.2.2.1
 let yZe:=x27.2.2.2.2.2.1
 let N34:=x27.2.2.2.2.2.2.1
 let M35:=x27.2.2.2.2.2.2.2.1
 let yZf:=x27.2.2.2.2.2.2.2.2.1
 let N37:=x27.2.2.2.2.2.2.2.2.2.1
 let M38:=x27.2.2.2.2.2.2.2.2.2.2.1
 let xCc:=x27.2.2.2.2.2.2.2.2.2.2.2.1
 let xDz:=x27.2.2.2.2.2.2.2.2.2.2.2.2.1
 let yZg:=x27.2.2.2.2.2.2.2.2.2.2.2.2.2.1
 let yZh:=x27.2.2.2.2.2.2.2.2.2.2.2.2.2.2.1
 let N43:=x27.2.2.2.2.2.2.2.2.2.2.2.2.2.2.2.1
 let xEa:=x27.2.2.2.2.2.2.2.2.2.2.2.2.2.2.2.2.1
 let xCd:=x27.2.2.2.2.2.2.2.2.2.2.2.2.2.2.2.2.2.1
 let yWr:=x27.2.2.2.2.2.2.2.2.2.2.2.2.2.2.2.2.2.2.1
 let xCe:=x27.2.2.2.2.2.2.2.2.2.2.2.2.2.2.2.2.2.2.2.1
 let yWs:=x27.2.2.2.2.2.2.2.2.2.2.2.2.2.2.2.2.2.2.2.2.1
 let xCf:=x27.2.2.2.2.2.2.2.2.2.2.2.2.2.2.2.2.2.2.2.2.2.1
 let xCg:=x27.2.2.2.2.2.2.2.2.2.2.2.2.2.2.2.2.2.2.2.2.2.2.1
 let xCh:=x27.2.2.2.2.2.2.2.2.2.2.2.2.2.2.2.2.2.2.2.2.2.2.2.1
 let Zc:=x27.2.2.2.2.2.2.2.2.2.2.2.2.2.2.2.2.2.2.2.2.2.2.2.2.1
 let xCi:=x27.2.2.2.2.2.2.2.2.2.2.2.2.2.2.2.2.2.2.2.2.2.2.2.2.2.1
 let zYf:=x27.2.2.2.2.2.2.2.2.2.2.2.2.2.2.2.2.2.2.2.2.2.2.2.2.2.2.1
 ob (dD n ([48,49,50,51,52,53,54,55,56,57],s28,xCb,yJq,yWp,yWq,yZe,N34,M35,yZf,N37,M38,xCc,xDz,yZg,yZh,N43,xEa,xCd,yWr,xCe,yWs,xCf,xCg,xCh,Zc,xCi,())) fun y55 =>br y55.1 (let v56:Int:=jK .str 0 zYf [110,117,109,98,101,114]
 br (v56==0) (ob2 (dY n (124,y55.2.1,y55.2.2.1,y55.2.2.2.1,y55.2.2.2.2.1,y55.2.2.2.2.2.1,y55.2.2.2.2.2.2.1,y55.2.2.2.2.2.2.2.1,y55.2.2.2.2.2.2.2.2.1,y55.2.2.2.2.2.2.2.2.2.1,y55.2.2.2.2.2.2.2.2.2.2.1,y55.2.2.2.2.2.2.2.2.2.2.2.1,y55.2.2.2.2.2.2.2.2.2.2.2.2.1,y55.2.2.2.2.2.2.2.2.2.2.2.2.2.1,y55.2.2.2.2.2.2.2.2.2.2.2.2.2.2.1,y55.2.2.2.2.2.2.2.2.2.2.2.2.2.2.2.1,y55.2.2.2.2.2.2.2.2.2.2.2.2.2.2.2.2.1,y55.2.2.2.2.2.2.2.2.2.2.2.2.2.2.2.2.2.1,y55.2.2.2.2.2.2.2.2.2.2.2.2.2.2.2.2.2.2.1,y55.2.2.2.2.2.2.2.2.2.2.2.2.2.2.2.2.2.2.2.1,y55.2.2.2.2.2.2.2.2.2.2.2.2.2.2.2.2.2.2.2.2.1,y55.2.2.2.2.2.2.2.2.2.2.2.2.2.2.2.2.2.2.2.2.2.1,y55.2.2.2.2.2.2.2.2.2.2.2.2.2.2.2.2.2.2.2.2.2.2.1,y55.2.2.2.2.2.2.2.2.2.2.2.2.2.2.2.2.2.2.2.2.2.2.2.1,y55.2.2.2.2.2.2.2.2.2.2.2.2.2.2.2.2.2.2.2.2.2.2.2.2.1,y55.2.2.2.2.2.2.2.2.2.2.2.2.2.2.2.2.2.2.2.2.2.2.2.2.2.1,y55.2.2.2.2.2.2.2.2.2.2.2.2.2.2.2.2.2.2.2.2.2.2.2.2.2.2.1,())) (fun y57 =>jn (fK n g0) ([110,117,109,98,101,114],y57.2.1,y57.2.2.1,y57.2.2.2.1,y57.2.2.2.2.1,y57.2.2.2.2.2.1,y57.2.2.2.2.2.2.1,y57.2.2.2.2.2.2.2.1,y57.2.2.2.2.2.2.2.2.1,y57.2.2.2.2.2.2.2.2.2.1,y57.2.2.2.2.2.2.2.2.2.2.1,y57.2.2.2.2.2.2.2.2.2.2.2.1,y57.2.2.2.2.2.2.2.2.2.2.2.2.1,y57.2.2.2.2.2.2.2.2.2.2.2.2.2.1,y57.2.2.2.2.2.2.2.2.2.2.2.2.2.2.1,y57.2.2.2.2.2.2.2.2.2.2.2.2.2.2.2.1,y57.1,y57.2.2.2.2.2.2.2.2.2.2.2.2.2.2.2.2.2.1,y57.2.2.2.2.2.2.2.2.2.2.2.2.2.2.2.2.2.2.1,y57.2.2.2.2.2.2.2.2.2.2.2.2.2.2.2.2.2.2.2.1,y57.2.2.2.2.2.2.2.2.2.2.2.2.2.2.2.2.2.2.2.2.1,y57.2.2.2.2.2.2.2.2.2.2.2.2.2.2.2.2.2.2.2.2.2.1,y57.2.2.2.2.2.2.2.2.2.2.2.2.2.2.2.2.2.2.2.2.2.2.1,y57.2.2.2.2.2.2.2.2.2.2.2.2.2.2.2.2.2.2.2.2.2.2.2.1,y57.2.2.2.2.2.2.2.2.2.2.2.2.2.2.2.2.2.2.2.2.2.2.2.2.1,y57.2.2.2.2.2.2.2.2.2.2.2.2.2.2.2.2.2.2.2.2.2.2.2.2.2.1,y57.2.2.2.2.2.2.2.2.2.2.2.2.2.2.2.2.2.2.2.2.2.2.2.2.2.2.1,zYf,())) (fun y57 =>some (.inr (y57.1,y57.2.1,y57.2.2.1,y57.2.2.2.1,y57.2.2.2.2.1,y57.2.2.2.2.2.1,y57.2.2.2.2.2.2.1,y57.2.2.2.2.2.2.2.1,y57.2.2.2.2.2.2.2.2.1,y57.2.2.2.2.2.2.2.2.2.1,y57.2.2.2.2.2.2.2.2.2.2.1,y57.2.2.2.2.2.2.2.2.2.2.2.1,y57.2.2.2.2.2.2.2.2.2.2.2.2.1,y57.2.2.2.2.2.2.2.2.2.2.2.2.2.1,y57.2.2.2.2.2.2.2.2.2.2.2.2.2.2.1,y57.2.2.2.2.2.2.2.2.2.2.2.2.2.2.2.1,y57.2.2.2.2.2.2.2.2.2.2.2.2.2.2.2.2.1,y57.2.2.2.2.2.2.2.2.2.2.2.2.2.2.2.2.2.1,y57.2.2.2.2.2.2.2.2.2.2.2.2.2.2.2.2.2.2.1,y57.2.2.2.2.2.2.2.2.2.2.2.2.2.2.2.2.2.2.2.1,y57.2.2.2.2.2.2.2.2.2.2.2.2.2.2.2.2.2.2.2.2.1,y57.2.2.2.2.2.2.2.2.2.2.2.2.2.2.2.2.2.2.2.2.2.1,y57.2.2.2.2.2.2.2.2.2.2.2.2.2.2.2.2.2.2.2.2.2.2.1,y57.2.2.2.2.2.2.2.2.2.2.2.2.2.2.2.2.2.2.2.2.2.2.2.1,y57.2.2.2.2.2.2.2.2.2.2.2.2.2.2.2.2.2.2.2.2.2.2.2.2.1,y57.2.2.2.2.2.2.2.2.2.2.2.2.2.2.2.2.2.2.2.2.2.2.2.2.2.1,y57.2.2.2.2.2.2.2.2.2.2.2.2.2.2.2.2.2.2.2.2.2.2.2.2.2.2.1,())))) (jn (fK n g0) ([110,117,109,98,101,114],y55.2.1,y55.2.2.1,y55.2.2.2.1,y55.2.2.2.2.1,y55.2.2.2.2.2.1,y55.2.2.2.2.2.2.1,y55.2.2.2.2.2.2.2.1,y55.2.2.2.2.2.2.2.2.1,y55.2.2.2.2.2.2.2.2.2.1,y55.2.2.2.2.2.2.2.2.2.2.1,y55.2.2.2.2.2.2.2.2.2.2.2.1,y55.2.2.2.2.2.2.2.2.2.2.2.2.1,y55.2.2.2.2.2.2.2.2.2.2.2.2.2.1,y55.2.2.2.2.2.2.2.2.2.2.2.2.2.2.1,y55.2.2.2.2.2.2.2.2.2.2.2.2.2.2.2.1,y55.2.2.2.2.2.2.2.2.2.2.2.2.2.2.2.2.1,y55.2.2.2.2.2.2.2.2.2.2.2.2.2.2.2.2.2.1,y55.2.2.2.2.2.2.2.2.2.2.2.2.2.2.2.2.2.2.1,y55.2.2.2.2.2.2.2.2.2.2.2.2.2.2.2.2.2.2.2.1,y55.2.2.2.2.2.2.2.2.2.2.2.2.2.2.2.2.2.2.2.2.1,y55.2.2.2.2.2.2.2.2.2.2.2.2.2.2.2.2.2.2.2.2.2.1,y55.2.2.2.2.2.2.2.2.2.2.2.2.2.2.2.2.2.2.2.2.2.2.1,y55.2.2.2.2.2.2.2.2.2.2.2.2.2.2.2.2.2.2.2.2.2.2.2.1,y55.2.2.2.2.2.2.2.2.2.2.2.2.2.2.2.2.2.2.2.2.2.2.2.2.1,y55.2.2.2.2.2.2.2.2.2.2.2.2.2.2.2.2.2.2.2.2.2.2.2.2.2.1,y55.2.2.2.2.2.2.2.2.2.2.2.2.2.2.2.2.2.2.2.2.2.2.2.2.2.2.1,zYf,()))) (ob (dD n ([103,112,73,119],y55.2.1,y55.2.2.1,y55.2.2.2.1,y55.2.2.2.2.1,y55.2.2.2.2.2.1,y55.2.2.2.2.2.2.1,y55.2.2.2.2.2.2.2.1,y55.2.2.2.2.2.2.2.2.1,y55.2.2.2.2.2.2.2.2.2.1,y55.2.2.2.2.2.2.2.2.2.2.1,y55.2.2.2.2.2.2.2.2.2.2.2.1,y55.2.2.2.2.2.2.2.2.2.2.2.2.1,y55.2.2.2.2.2.2.2.2.2.2.2.2.2.1,y55.2.2.2.2.2.2.2.2.2.2.2.2.2.2.1,y55.2.2.2.2.2.2.2.2.2.2.2.2.2.2.2.1,y55.2.2.2.2.2.2.2.2.2.2.2.2.2.2.2.2.1,y55.2.2.2.2.2.2.2.2.2.2.2.2.2.2.2.2.2.1,y55.2.2.2.2.2.2.2.2.2.2.2.2.2.2.2.2.2.2.1,y55.2.2.2.2.2.2.2.2.2.2.2.2.2.2.2.2.2.2.2.1,y55.2.2.2.2.2.2.2.2.2.2.2.2.2.2.2.2.2.2.2.2.1,y55.2.2.2.2.2.2.2.2.2.2.2.2.2.2.2.2.2.2.2.2.2.1,y55.2.2.2.2.2.2.2.2.2.2.2.2.2.2.2.2.2.2.2.2.2.2.1,y55.2.2.2.2.2.2.2.2.2.2.2.2.2.2.2.2.2.2.2.2.2.2.2.1,y55.2.2.2.2.2.2.2.2.2.2.2.2.2.2.2.2.2.2.2.2.2.2.2.2.1,y55.2.2.2.2.2.2.2.2.2.2.2.2.2.2.2.2.2.2.2.2.2.2.2.2.2.1,y55.2.2.2.2.2.2.2.2.2.2.2.2.2.2.2.2.2.2.2.2.2.2.2.2.2.2.1,())) fun eU =>br eU.1 (let yKj:Int:=IntKind.wrap .i64 (eU.2.2.2.1+1)
 chk ((decide (0<=yKj)&&decide (yKj<=(eU.2.1.length:Int))&&(decide (0<=eU.2.2.2.1)&&decide (eU.2.2.2.1<=yKj)))) (let xEb:List UInt8:=(eU.2.1.take yKj.toNat).drop eU.2.2.2.1.toNat
 let v127:Int:=IntKind.wrap .i64 (eU.2.2.2.1+1)
 jn (fK n g0) (xEb,eU.2.1,eU.2.2.1,v127,eU.2.2.2.2.1,eU.2.2.2.2.2.1,eU.2.2.2.2.2.2.1,eU.2.2.2.2.2.2.2.1,eU.2.2.2.2.2.2.2.2.1,eU.2.2.2.2.2.2.2.2.2.1,eU.2.2.2.2.2.2.2.2.2.2.1,eU.2.2.2.2.2.2.2.2.2.2.2.1,eU.2.2.2.2.2.2.2.2.2.2.2.2.1,eU.2.2.2.2.2.2.2.2.2.2.2.2.2.1,eU.2.2.2.2.2.2.2.2.2.2.2.2.2.2.1,eU.2.2.2.2.2.2.2.2.2.2.2.2.2.2.2.1,eU.2.2.2.2.2.2.2.2.2.2.2.2.2.2.2.2.1,eU.2.2.2.2.2.2.2.2.2.2.2.2.2.2.2.2.2.1,eU.2.2.2.2.2.2.2.2.2.2.2.2.2.2.2.2.2.2.1,eU.2.2.2.2.2.2.2.2.2.2.2.2.2.2.2.2.2.2.2.1,eU.2.2.2.2.2.2.2.2.2.2.2.2.2.2.2.2.2.2.2.2.1,eU.2.2.2.2.2.2.2.2.2.2.2.2.2.2.2.2.2.2.2.2.2.1,eU.2.2.2.2.2.2.2.2.2.2.2.2.2.2.2.2.2.2.2.2.2.2.1,eU.2.2.2.2.2.2.2.2.2.2.2.2.2.2.2.2.2.2.2.2.2.2.2.1,eU.2.2.2.2.2.2.2.2.2.2.2.2.2.2.2.2.2.2.2.2.2.2.2.2.1,eU.2.2.2.2.2.2.2.2.2.2.2.2.2.2.2.2.2.2.2.2.2.2.2.2.2.1,eU.2.2.2.2.2.2.2.2.2.2.2.2.2.2.2.2.2.2.2.2.2.2.2.2.2.2.1,zYf,()))) (some (.inl (false,eU.2.1,eU.2.2.1,eU.2.2.2.1,eU.2.2.2.2.1,eU.2.2.2.2.2.1,eU.2.2.2.2.2.2.1,eU.2.2.2.2.2.2.2.1,eU.2.2.2.2.2.2.2.2.1,eU.2.2.2.2.2.2.2.2.2.1,eU.2.2.2.2.2.2.2.2.2.2.1,eU.2.2.2.2.2.2.2.2.2.2.2.1,eU.2.2.2.2.2.2.2.2.2.2.2.2.1,eU.2.2.2.2.2.2.2.2.2.2.2.2.2.1,eU.2.2.2.2.2.2.2.2.2.2.2.2.2.2.1,eU.2.2.2.2.2.2.2.2.2.2.2.2.2.2.2.1,eU.2.2.2.2.2.2.2.2.2.2.2.2.2.2.2.2.1,eU.2.2.2.2.2.2.2.2.2.2.2.2.2.2.2.2.2.1,eU.2.2.2.2.2.2.2.2.2.2.2.2.2.2.2.2.2.2.1,eU.2.2.2.2.2.2.2.2.2.2.2.2.2.2.2.2.2.2.2.1,eU.2.2.2.2.2.2.2.2.2.2.2.2.2.2.2.2.2.2.2.2.1,eU.2.2.2.2.2.2.2.2.2.2.2.2.2.2.2.2.2.2.2.2.2.1,eU.2.2.2.2.2.2.2.2.2.2.2.2.2.2.2.2.2.2.2.2.2.2.1,eU.2.2.2.2.2.2.2.2.2.2.2.2.2.2.2.2.2.2.2.2.2.2.2.1,eU.2.2.2.2.2.2.2.2.2.2.2.2.2.2.2.2.2.2.2.2.2.2.2.2.1,eU.2.2.2.2.2.2.2.2.2.2.2.2.2.2.2.2.2.2.2.2.2.2.2.2.2.1,eU.2.2.2.2.2.2.2.2.2.2.2.2.2.2.2.2.2.2.2.2.2.2.2.2.2.2.1,()))))
def iJ (n:Nat) (x:Sc0):Option (Sum (Bool×Sc0) (Int×Sc0)) :=let s1:=x.1
 let wM:=x.2.1
 let at3:=x.2.2.1
 let pE:=x.2.2.2.1
 let tY:=x.2.2.2.2.1
 let yT:=x.2.2.2.2.2.1
 let N7:=x.2.2.2.2.2.2.1
 let M8:=x.2.2.2.2.2.2.2.1
 let yU:=x.2.2.2.2.2.2.2.2.1
 let N10:=x.2.2.2.2.2.2.2.2.2.1
 let M11:=x.2.2.2.2.2.2.2.2.2.2.1
 let yV:=x.2.2.2.2.2.2.2.2.2.2.2.1
 let Dz:=x.2.2.2.2.2.2.2.2.2.2.2.2.1
 let tZ:=x.2.2.2.2.2.2.2.2.2.2.2.2.2.1
 let uD:=x.2.2.2.2.2.2.2.2.2.2.2.2.2.2.1
 let N16:=x.2.2.2.2.2.2.2.2.2.2.2.2.2.2.2.1
 let Wj:=x.2.2.2.2.2.2.2.2.2.2.2.2.2.2.2.2.1
 let Gc:=x.2.2.2.2.2.2.2.2.2.2.2.2.2.2.2.2.2.1
 let uY:=x.2.2.2.2.2.2.2.2.2.2.2.2.2.2.2.2.2.2.1
 let Gd:=x.2.2.2.2.2.2.2.2.2.2.2.2.2.2.2.2.2.2.2.1
 let uZ:=x.2.2.2.2.2.2.2.2.2.2.2.2.2.2.2.2.2.2.2.2.1
 let qI:=x.2.2.2.2.2.2.2.2.2.2.2.2.2.2.2.2.2.2.2.2.2.1
 let iL:=x.2.2.2.2.2.2.2.2.2.2.2.2.2.2.2.2.2.2.2.2.2.2.1
 let yX:=x.2.2.2.2.2.2.2.2.2.2.2.2.2.2.2.2.2.2.2.2.2.2.2.1
 let Ug:=x.2.2.2.2.2.2.2.2.2.2.2.2.2.2.2.2.2.2.2.2.2.2.2.2.1
 let zEc:=x.2.2.2.2.2.2.2.2.2.2.2.2.2.2.2.2.2.2.2.2.2.2.2.2.2.1
 fix (Da n) n (s1,wM,at3,pE,tY,yT,N7,M8,yU,N10,M11,yV,Dz,tZ,uD,1,Wj,Gc,uY,Gd,uZ,qI,iL,yX,Ug,zEc,[],())
def qP (n:Nat) (x:Sc0):Option (Sum (Sc0) (Int×Sc0)) :=ob2 (fO n (x)) (fun y27 =>ob2 (fT n (y27)) (fun y28 =>ob2 (fA n (y27.1,y28.2.1,y28.2.2.1,y28.2.2.2.1,y28.2.2.2.2.1,y28.2.2.2.2.2.1,y28.2.2.2.2.2.2.1,y28.2.2.2.2.2.2.2.1,y28.2.2.2.2.2.2.2.2.1,y28.2.2.2.2.2.2.2.2.2.1,y28.2.2.2.2.2.2.2.2.2.2.1,y28.2.2.2.2.2.2.2.2.2.2.2.1,y28.2.2.2.2.2.2.2.2.2.2.2.2.1,y28.2.2.2.2.2.2.2.2.2.2.2.2.2.1,y28.2.2.2.2.2.2.2.2.2.2.2.2.2.2.1,y28.2.2.2.2.2.2.2.2.2.2.2.2.2.2.2.1,y28.2.2.2.2.2.2.2.2.2.2.2.2.2.2.2.2.1,y28.2.2.2.2.2.2.2.2.2.2.2.2.2.2.2.2.2.1,y28.1,y28.2.2.2.2.2.2.2.2.2.2.2.2.2.2.2.2.2.2.2)) (fun y29 =>ob (Ig n y29.1) fun y30 =>ob2 (iF n (y30.2.2,())) (fun y31 =>let v32:=y29.2.2.2.2.2.2.2.2.2.2.2.2.2.2.2.2.2.2.1
 chk ((inB v32 (y29.2.2.2.2.2.2.2.2.2.2.2.2.2.2.2.2.2.2.2.2.2.2.1.length)&&decide (0+(y29.2.2.2.2.2.2.2.2.2.2.2.2.2.2.2.2.2.2.2.2.2.2.1.length)<=y29.2.2.2.2.2.2.2.2.2.2.2.2.2.2.2.2.2.2.2.2.2.2.1.length))) (chk (decide (0+v32.toNat<y29.2.2.2.2.2.2.2.2.2.2.2.2.2.2.2.2.2.2.2.2.2.2.1.length)) (let v33:List (NdT):=(y29.2.2.2.2.2.2.2.2.2.2.2.2.2.2.2.2.2.2.2.2.2.2.1.getD (0+v32.toNat) (Ty.dflt bQ)).1
 chk (inB 0 v33.length) (let v34:Int×List (Int)×Int×Int×Int×Int×Int×Unit:=aV (Ty.dflt bA) v33 0
 br (v34.1 != 0) (ob (Ll n y30.1) fun y35 =>ob (Qr n v33) fun y36 =>br (decide (y35>y36)) (ob2 (aW n (44,())) (fun y37 =>none) (fun y37 =>some (.inr (y37.1,y29.2.1,y29.2.2.1,y29.2.2.2.1,y29.2.2.2.2.1,y29.2.2.2.2.2.1,y29.2.2.2.2.2.2.1,y29.2.2.2.2.2.2.2.1,y29.2.2.2.2.2.2.2.2.1,y29.2.2.2.2.2.2.2.2.2.1,y29.2.2.2.2.2.2.2.2.2.2.1,y29.2.2.2.2.2.2.2.2.2.2.2.1,y29.2.2.2.2.2.2.2.2.2.2.2.2.1,y29.2.2.2.2.2.2.2.2.2.2.2.2.2.1,y29.2.2.2.2.2.2.2.2.2.2.2.2.2.2.1,y29.2.2.2.2.2.2.2.2.2.2.2.2.2.2.2.1,y29.2.2.2.2.2.2.2.2.2.2.2.2.2.2.2.2.1,y29.2.2.2.2.2.2.2.2.2.2.2.2.2.2.2.2.2.1,y29.2.2.2.2.2.2.2.2.2.2.2.2.2.2.2.2.2.2.1,y30.1,y29.2.2.2.2.2.2.2.2.2.2.2.2.2.2.2.2.2.2.2.2)))) (ob2 (iJ n (y29.2.1,y29.2.2.1,y29.2.2.2.1,y29.2.2.2.2.1,y29.2.2.2.2.2.1,y29.2.2.2.2.2.2.1,y29.2.2.2.2.2.2.2.1,y29.2.2.2.2.2.2.2.2.1,y29.2.2.2.2.2.2.2.2.2.1,y29.2.2.2.2.2.2.2.2.2.2.1,y29.2.2.2.2.2.2.2.2.2.2.2.1,y29.2.2.2.2.2.2.2.2.2.2.2.2.1,y29.2.2.2.2.2.2.2.2.2.2.2.2.2.1,y29.2.2.2.2.2.2.2.2.2.2.2.2.2.2.1,y29.2.2.2.2.2.2.2.2.2.2.2.2.2.2.2.1,y29.2.2.2.2.2.2.2.2.2.2.2.2.2.2.2.2.1,y29.2.2.2.2.2.2.2.2.2.2.2.2.2.2.2.2.2.1,y29.2.2.2.2.2.2.2.2.2.2.2.2.2.2.2.2.2.2.1,y30.1,y29.2.2.2.2.2.2.2.2.2.2.2.2.2.2.2.2.2.2.2.2)) (fun y38 =>ob (bZ n (y38.2)) fun y39 =>br (!y38.1) (ob2 (eH n (y39)) (fun y40 =>some (.inl (y40))) (fun y40 =>some (.inr (y40)))) (some (.inl (y39)))) (fun y38 =>some (.inr (y38))))) (ob2 (iJ n (y29.2.1,y29.2.2.1,y29.2.2.2.1,y29.2.2.2.2.1,y29.2.2.2.2.2.1,y29.2.2.2.2.2.2.1,y29.2.2.2.2.2.2.2.1,y29.2.2.2.2.2.2.2.2.1,y29.2.2.2.2.2.2.2.2.2.1,y29.2.2.2.2.2.2.2.2.2.2.1,y29.2.2.2.2.2.2.2.2.2.2.2.1,y29.2.2.2.2.2.2.2.2.2.2.2.2.1,y29.2.2.2.2.2.2.2.2.2.2.2.2.2.1,y29.2.2.2.2.2.2.2.2.2.2.2.2.2.2.1,y29.2.2.2.2.2.2.2.2.2.2.2.2.2.2.2.1,y29.2.2.2.2.2.2.2.2.2.2.2.2.2.2.2.2.1,y29.2.2.2.2.2.2.2.2.2.2.2.2.2.2.2.2.2.1,y29.2.2.2.2.2.2.2.2.2.2.2.2.2.2.2.2.2.2.1,y30.1,y29.2.2.2.2.2.2.2.2.2.2.2.2.2.2.2.2.2.2.2.2)) (fun y41 =>ob (bZ n (y41.2)) fun y42 =>br (!y41.1) (ob2 (eH n (y42)) (fun y43 =>some (.inl (y43))) (fun y43 =>some (.inr (y43)))) (some (.inl (y42)))) (fun y41 =>some (.inr (y41)))))))) (fun y31 =>some (.inr (y31.1,y29.2)))) (fun y29 =>some (.inr (y29)))) (fun y28 =>some (.inr (y28)))) (fun y27 =>some (.inr (y27)))
def Te (n:Nat) (g0:List UInt8×Int×List (Int)×Unit->Option (List UInt8×Int×Int)) (x1:List UInt8×Int×List (Int)×Unit):Option (List UInt8×Int×Int) :=let s_2:=x1.1
 let i_3:=x1.2.1
 let Zz:=x1.2.2.1
 br (decide (i_3<(s_2.length:Int))) (chk (inB i_3 s_2.length) (let v5:Int:=((aV 0 s_2 i_3).toNat:Int)
 br (v5==10) (some ([],i_3,100)) (br (v5==92) (let v6:Int:=IntKind.wrap .i64 (i_3+1)
 br (v6==(s_2.length:Int)) (some ([],i_3,100)) (let v7:Int:=IntKind.wrap .i64 (i_3+1)
 chk (inB v7 s_2.length) (let v8:Int:=((aV 0 s_2 v7).toNat:Int)
 ob (strings_IndexByte n ([110,92,47],v8)) fun y9 =>br (decide (y9 < 0)) (some ([],i_3,100)) (let v10:Int:=IntKind.wrap .i64 (i_3+1)
 chk (inB v10 s_2.length) (let v11:Int:=((aV 0 s_2 v10).toNat:Int)
 br (v11==110) (chk (Nat.ble ((Zz.length+([10]:List (Int)).length) * 1) room) (let v12:Int:=IntKind.wrap .i64 (v10+1)
 g0 (s_2,v12,Zz++[10],()))) (chk (Nat.ble ((Zz.length+([v11]:List (Int)).length) * 1) room) (let v13:Int:=IntKind.wrap .i64 (v10+1)
 g0 (s_2,v13,Zz++[v11],())))))))) (chk (Nat.ble ((Zz.length+([v5]:List (Int)).length) * 1) room) (let v14:Int:=IntKind.wrap .i64 (i_3+1)
 g0 (s_2,v14,Zz++[v5],())))))) (some (bN Zz,0,0))
def Bu (n:Nat) (x:List UInt8):Option (List UInt8×Int×Int) :=let s_0:=x
 fix (Te n) n (s_0,0,[],())
def Wo (n:Nat) (g0:Int×List (Int)×Unit->Option (List (Int))) (x1:Int×List (Int)×Unit):Option (List (Int)) :=let zTi:=x1.1
 let b3:=x1.2.1
 br (decide (zTi < 256)) (chk (inB zTi 256) (chk (decide (zTi.toNat < 256)) (let v4:Int:=IntKind.wrap .i64 (zTi+1)
 g0 (v4,b3.set (zTi.toNat) (IntKind.wrap .u8 zTi),())))) (some b3)
def Lr (n:Nat) (x:Unit):Option (List (Int)) :=fix (Wo n) n (0,(List.replicate 256 0),())
def Wp (n:Nat) (g0:List UInt8×List UInt8×Int×Int×List (Int)×List (Int)×List (Bool)×Unit->Option (List (Int)×Int)) (x2:List UInt8×List UInt8×Int×Int×List (Int)×List (Int)×List (Bool)×Unit):Option (List (Int)×Int) :=let yRr:=x2.1
 let yRs:=x2.2.1
 let yUo:=x2.2.2.1
 let zKn:=x2.2.2.2.1
 let b7:=x2.2.2.2.2.1
 let b8:=x2.2.2.2.2.2.1
 let b9:=x2.2.2.2.2.2.2.1
 br (decide (zKn<yUo)) (chk (inB zKn yRr.length) (let v10:Int:=((aV 0 yRr zKn).toNat:Int)
 chk (inB v10 256) (chk (decide (v10.toNat < 256)) (br (b9.getD (v10.toNat) (Ty.dflt .bool)) (some ((List.replicate 256 0),100)) (chk (inB zKn yRs.length) (let v11:Int:=((aV 0 yRs zKn).toNat:Int)
 chk (inB v10 256) (chk (decide (v10.toNat < 256)) (chk (inB v10 256) (chk (decide (v10.toNat < 256)) (let v12:Int:=IntKind.wrap .i64 (zKn+1)
 g0 (yRr,yRs,yUo,v12,b7,b8.set (v10.toNat) v11,b9.set (v10.toNat) true,()))))))))))) (some (b8,0))
def Ls (n:Nat) (x:List UInt8×List UInt8):Option (List (Int)×Int) :=let yRt:=x.1
 let yZi:=x.2
 br ((yRt.length:Int) != (yZi.length:Int)) (some ((List.replicate 256 0),100)) (ob (Lr n ()) fun y1 =>fix (Wp n) n (yRt,yZi,(yRt.length:Int),0,(List.replicate 256 0),y1,(List.replicate 256 false),()))
def aX (n:Nat) (x:Sc0):Option (Sum (Sc0) (Int×Sc0)) :=ob (bZ n (x)) fun y27 =>ob2 (eH n (y27)) (fun y28 =>some (.inl (y28))) (fun y28 =>some (.inr (y28)))
def lY (n:Nat) (x:Sc0):Option (Sum (Sc0) (Int×Sc0)) :=ob2 (fO n (x)) (fun y27 =>ob2 (fA n (y27)) (fun y28 =>ob2 (fA n (y27.1,y28.2)) (fun y29 =>ob (Bu n y28.1) fun y30 =>ob2 (iF n (y30.2.2,())) (fun y31 =>ob (Bu n y29.1) fun y32 =>ob2 (iF n (y32.2.2,())) (fun y33 =>ob (Ls n (y30.1,y32.1)) fun y34 =>ob2 (iF n (y34.2,())) (fun y35 =>ob2 (aX n (y29.2.1,y29.2.2.1,y29.2.2.2.1,y29.2.2.2.2.1,y29.2.2.2.2.2.1,y29.2.2.2.2.2.2.1,y29.2.2.2.2.2.2.2.1,y29.2.2.2.2.2.2.2.2.1,y29.2.2.2.2.2.2.2.2.2.1,y29.2.2.2.2.2.2.2.2.2.2.1,y29.2.2.2.2.2.2.2.2.2.2.2.1,y29.2.2.2.2.2.2.2.2.2.2.2.2.1,y29.2.2.2.2.2.2.2.2.2.2.2.2.2.1,y30.1,y32.1,y29.2.2.2.2.2.2.2.2.2.2.2.2.2.2.2.2)) (fun y36 =>some (.inl (y36))) (fun y36 =>some (.inr (y36)))) (fun y35 =>some (.inr (y35.1,y29.2)))) (fun y33 =>some (.inr (y33.1,y29.2)))) (fun y31 =>some (.inr (y31.1,y29.2)))) (fun y29 =>some (.inr (y29)))) (fun y28 =>some (.inr (y28)))) (fun y27 =>some (.inr (y27)))
def sJ (n:Nat) (x:Sc6):Option (Bool×List (Int)×Unit) :=let Li:=x.1
 let Lh:=x.2.1
 br (Li==[10]) (some (false,Lh,())) (br (Li==[92]) (some (false,Lh,())) (let v3:Int:=IntKind.wrap .i64 ((Li.length:Int) - 1)
 chk ((decide (0<=v3)&&decide (v3<=(Li.length:Int)))) (ob (eP n (Li.drop v3.toNat,Lh,())) fun y4 =>some (true,y4.2.2.1,()))))
def wH (n:Nat) (g0:List UInt8×Int×List (Int)×Unit->Option (Int×List (Int)×Unit)) (x3:List UInt8×Int×List (Int)×Unit):Option (Int×List (Int)×Unit) :=let s_4:=x3.1
 let i_5:=x3.2.1
 let bX:=x3.2.2.1
 br (decide (i_5<(s_4.length:Int))) (chk (inB i_5 s_4.length) (let v7:Int:=((aV 0 s_4 i_5).toNat:Int)
 br (v7==92) (let v8:Int:=IntKind.wrap .i64 (i_5+1)
 br (decide (v8<(s_4.length:Int))) (let v9:Int:=IntKind.wrap .i64 (i_5+2)
 chk ((decide (0<=v9)&&decide (v9<=(s_4.length:Int))&&(decide (0<=i_5)&&decide (i_5<=v9)))) (let v10:List UInt8:=(s_4.take v9.toNat).drop i_5.toNat
 ob (sJ n (v10,bX,())) fun y11 =>br (!y11.1) (some (i_5,y11.2.1,())) (let v12:Int:=IntKind.wrap .i64 (i_5+2)
 g0 (s_4,v12,y11.2.1,())))) (let v13:Int:=IntKind.wrap .i64 (i_5+1)
 chk ((decide (0<=v13)&&decide (v13<=(s_4.length:Int))&&(decide (0<=i_5)&&decide (i_5<=v13)))) (let v14:List UInt8:=(s_4.take v13.toNat).drop i_5.toNat
 ob (sJ n (v14,bX,())) fun y15 =>br (!y15.1) (some (i_5,y15.2.1,())) (let v16:Int:=IntKind.wrap .i64 (i_5+1)
 g0 (s_4,v16,y15.2.1,()))))) (let v17:Int:=IntKind.wrap .i64 (i_5+1)
 chk ((decide (0<=v17)&&decide (v17<=(s_4.length:Int))&&(decide (0<=i_5)&&decide (i_5<=v17)))) (let v18:List UInt8:=(s_4.take v17.toNat).drop i_5.toNat
 ob (sJ n (v18,bX,())) fun y19 =>br (!y19.1) (some (i_5,y19.2.1,())) (let v20:Int:=IntKind.wrap .i64 (i_5+1)
 g0 (s_4,v20,y19.2.1,())))))) (some (i_5,bX,()))
def kH (n:Nat) (x:Sc6):Option (Int×List (Int)×Unit) :=let s_1:=x.1
 let Lh:=x.2.1
 fix (wH n) n (s_1,0,Lh,())
def Lu (n:Nat) (x:List UInt8×Int):Option (List UInt8×Int×Int) :=let s_0:=x.1
 let uI:=x.2
 ob (lM n (s_0,uI)) fun y1 =>ob (kH n (y1.1,[],())) fun y2 =>chk ((decide (0<=y2.1)&&decide (y2.1<=(y1.1.length:Int)))) (ob (strings_HasPrefix n (y1.1.drop y2.1.toNat,[92])) fun y3 =>br y3 (some ([],y1.2,120)) (br (decide (y2.1<(y1.1.length:Int))) (let v4:Int:=IntKind.wrap .i64 (y2.1+1)
 ob (Builder_String n (y2.2.1,())) fun y5 =>chk (decide (y5.1.length+([10]:List UInt8).length<=qK)) (let v6:Int:=IntKind.wrap .i64 (y1.2+v4)
 some (y5.1++[10],v6,0))) (ob (Builder_String n (y2.2.1,())) fun y7 =>chk (decide (y7.1.length+([10]:List UInt8).length<=qK)) (let v8:Int:=IntKind.wrap .i64 (y1.2+y2.1)
 some (y7.1++[10],v8,0)))))
def vG (n:Nat) (x59:Sc0):Option (Sum (Sc0) (Int×Sc0)) :=let s60:=x59.1
 let zPy:=x59.2.1
 let yBa:=x59.2.2.1
 let zBt:=x59.2.2.2.1
 let zBu:=x59.2.2.2.2.1
 let zHw:=x59.2.2.2.2.2.1
 let N66:=x59.2.2.2.2.2.2.1
 let M67:=x59.2.2.2.2.2.2.2.1
 let zHx:=x59.2.2.2.2.2.2.2.2.1
 let N69:=x59.2.2.2.2.2.2.2.2.2.1
 let M70:=x59.2.2.2.2.2.2.2.2.2.2.1
 let zPz:=x59.2.2.2.2.2.2.2.2.2.2.2.1
 let yBb:=x59.2.2.2.2.2.2.2.2.2.2.2.2.1
 ob (Lu n (s60,yBa)) fun y86 =>ob2 (iF n (y86.2.2,())) (fun y87 =>ob (bZ n (s60,zPy,y86.2.1,zBt,zBu,zHw,N66,M67,zHx,N69,M70,zPz,yBb,y86.1,x59.2.2.2.2.2.2.2.2.2.2.2.2.2.2)) fun y88 =>some (.inl (y88))) (fun y87 =>some (.inr (y87.1,x59)))
def kU (n:Nat) (x31:Sc0):Option (Sum (Sc0) (Int×Sc0)) :=let s32:=x31.1
 let yAj:=x31.2.2.1
 br (yAj==(s32.length:Int)) (ob2 (aW n (120,())) (fun y58 =>none) (fun y58 =>some (.inr (y58.1,x31)))) (jn (vG n) (x31))
def kV (n:Nat) (x:Sc0):Option (Sum (Sc0) (Int×Sc0)) :=ob (bL n (x)) fun y27 =>chk ((decide (0<=y27.2.2.1)&&decide (y27.2.2.1<=(y27.1.length:Int)))) (let v28:List UInt8:=y27.1.drop y27.2.2.1.toNat
 ob (strings_HasPrefix n (v28,[92,10])) fun y29 =>br y29 (let v30:Int:=IntKind.wrap .i64 (y27.2.2.1+2)
 jn (kU n) (y27.1,y27.2.1,v30,y27.2.2.2)) (jn (kU n) (y27)))
def gV (n:Nat) (x:Sc2):Option (Sc2) :=let s1:=x.1
 let wM:=x.2.1
 let at3:=x.2.2.1
 ob (nA n (s1,at3)) fun y27 =>some (s1,wM,y27,x.2.2.2)
def iO (n:Nat) (x:List UInt8×Sc2):Option (List UInt8×Sc2) :=let yAo:=x.1
 ob (gV n (x.2)) fun y28 =>ob (rR n (y28.1,y28.2.2.1,yAo)) fun y29 =>some (y29.1,y28.1,y28.2.1,y29.2,y28.2.2.2)
def iP (n:Nat) (x:Sc2):Option (Sum (List UInt8×Sc2) (Int×Sc2)) :=ob (iO n ([59,125],x)) fun y27 =>ob (strings_ContainsAny n (y27.1,[32,9])) fun y28 =>br y28 (ob2 (aW n (122,())) (fun y29 =>none) (fun y29 =>some (.inr (y29.1,y27.2)))) (some (.inl (y27)))
def gW(n:Nat)(x:Sc4):Option (Sum (List UInt8 × Sc4) (Int × Sc4)):=match iP n (x.1,x.2.1,x.2.2.1,undef,x.2.2.2.1,undef,x.2.2.2.2.1,x.2.2.2.2.2.1,x.2.2.2.2.2.2.1,x.2.2.2.2.2.2.2.1,x.2.2.2.2.2.2.2.2.1,x.2.2.2.2.2.2.2.2.2.1,x.2.2.2.2.2.2.2.2.2.2.1,x.2.2.2.2.2.2.2.2.2.2.2.1,x.2.2.2.2.2.2.2.2.2.2.2.2.1,x.2.2.2.2.2.2.2.2.2.2.2.2.2.1,x.2.2.2.2.2.2.2.2.2.2.2.2.2.2.1,x.2.2.2.2.2.2.2.2.2.2.2.2.2.2.2.1,x.2.2.2.2.2.2.2.2.2.2.2.2.2.2.2.2.1,x.2.2.2.2.2.2.2.2.2.2.2.2.2.2.2.2.2.1,x.2.2.2.2.2.2.2.2.2.2.2.2.2.2.2.2.2.2.1,x.2.2.2.2.2.2.2.2.2.2.2.2.2.2.2.2.2.2.2.1,undef,x.2.2.2.2.2.2.2.2.2.2.2.2.2.2.2.2.2.2.2.2) with|some (.inl y)=>some (.inl (y.1,y.2.1,y.2.2.1,y.2.2.2.1,y.2.2.2.2.2.1,y.2.2.2.2.2.2.2.1,y.2.2.2.2.2.2.2.2.1,y.2.2.2.2.2.2.2.2.2.1,y.2.2.2.2.2.2.2.2.2.2.1,y.2.2.2.2.2.2.2.2.2.2.2.1,y.2.2.2.2.2.2.2.2.2.2.2.2.1,y.2.2.2.2.2.2.2.2.2.2.2.2.2.1,y.2.2.2.2.2.2.2.2.2.2.2.2.2.2.1,y.2.2.2.2.2.2.2.2.2.2.2.2.2.2.2.1,y.2.2.2.2.2.2.2.2.2.2.2.2.2.2.2.2.1,y.2.2.2.2.2.2.2.2.2.2.2.2.2.2.2.2.2.1,y.2.2.2.2.2.2.2.2.2.2.2.2.2.2.2.2.2.2.1,y.2.2.2.2.2.2.2.2.2.2.2.2.2.2.2.2.2.2.2.1,y.2.2.2.2.2.2.2.2.2.2.2.2.2.2.2.2.2.2.2.2.1,y.2.2.2.2.2.2.2.2.2.2.2.2.2.2.2.2.2.2.2.2.2.1,y.2.2.2.2.2.2.2.2.2.2.2.2.2.2.2.2.2.2.2.2.2.2.1,y.2.2.2.2.2.2.2.2.2.2.2.2.2.2.2.2.2.2.2.2.2.2.2.2))|some (.inr z)=>some (.inr (z.1,z.2.1,z.2.2.1,z.2.2.2.1,z.2.2.2.2.2.1,z.2.2.2.2.2.2.2.1,z.2.2.2.2.2.2.2.2.1,z.2.2.2.2.2.2.2.2.2.1,z.2.2.2.2.2.2.2.2.2.2.1,z.2.2.2.2.2.2.2.2.2.2.2.1,z.2.2.2.2.2.2.2.2.2.2.2.2.1,z.2.2.2.2.2.2.2.2.2.2.2.2.2.1,z.2.2.2.2.2.2.2.2.2.2.2.2.2.2.1,z.2.2.2.2.2.2.2.2.2.2.2.2.2.2.2.1,z.2.2.2.2.2.2.2.2.2.2.2.2.2.2.2.2.1,z.2.2.2.2.2.2.2.2.2.2.2.2.2.2.2.2.2.1,z.2.2.2.2.2.2.2.2.2.2.2.2.2.2.2.2.2.2.1,z.2.2.2.2.2.2.2.2.2.2.2.2.2.2.2.2.2.2.2.1,z.2.2.2.2.2.2.2.2.2.2.2.2.2.2.2.2.2.2.2.2.1,z.2.2.2.2.2.2.2.2.2.2.2.2.2.2.2.2.2.2.2.2.2.1,z.2.2.2.2.2.2.2.2.2.2.2.2.2.2.2.2.2.2.2.2.2.2.1,z.2.2.2.2.2.2.2.2.2.2.2.2.2.2.2.2.2.2.2.2.2.2.2.2))|none=>none
def jQ (n:Nat) (x:Sc0):Option (Sum (Sc0) (Int×Sc0)) :=let s1:=x.1
 let wM:=x.2.1
 let at3:=x.2.2.1
 let pE:=x.2.2.2.1
 let tY:=x.2.2.2.2.1
 let yT:=x.2.2.2.2.2.1
 let N7:=x.2.2.2.2.2.2.1
 let M8:=x.2.2.2.2.2.2.2.1
 let yU:=x.2.2.2.2.2.2.2.2.1
 let N10:=x.2.2.2.2.2.2.2.2.2.1
 let M11:=x.2.2.2.2.2.2.2.2.2.2.1
 let yV:=x.2.2.2.2.2.2.2.2.2.2.2.1
 let Dz:=x.2.2.2.2.2.2.2.2.2.2.2.2.1
 let tZ:=x.2.2.2.2.2.2.2.2.2.2.2.2.2.1
 let uD:=x.2.2.2.2.2.2.2.2.2.2.2.2.2.2.1
 let N16:=x.2.2.2.2.2.2.2.2.2.2.2.2.2.2.2.1
 let Wj:=x.2.2.2.2.2.2.2.2.2.2.2.2.2.2.2.2.1
 let Gc:=x.2.2.2.2.2.2.2.2.2.2.2.2.2.2.2.2.2.1
 let uY:=x.2.2.2.2.2.2.2.2.2.2.2.2.2.2.2.2.2.2.1
 let Gd:=x.2.2.2.2.2.2.2.2.2.2.2.2.2.2.2.2.2.2.2.1
 let uZ:=x.2.2.2.2.2.2.2.2.2.2.2.2.2.2.2.2.2.2.2.2.1
 let qI:=x.2.2.2.2.2.2.2.2.2.2.2.2.2.2.2.2.2.2.2.2.2.1
 let iL:=x.2.2.2.2.2.2.2.2.2.2.2.2.2.2.2.2.2.2.2.2.2.2.1
 let yX:=x.2.2.2.2.2.2.2.2.2.2.2.2.2.2.2.2.2.2.2.2.2.2.2.1
 let Ug:=x.2.2.2.2.2.2.2.2.2.2.2.2.2.2.2.2.2.2.2.2.2.2.2.2.1
 let zEc:=x.2.2.2.2.2.2.2.2.2.2.2.2.2.2.2.2.2.2.2.2.2.2.2.2.2.1
 let v27:Int:=((iL.length:Nat):Int)
 ob2 (gW n (s1,wM,at3,tY,yT,N7,M8,yU,N10,M11,yV,Dz,tZ,uD,N16,Wj,Gc,uY,Gd,uZ,qI,yX,zEc,())) (fun y28 =>chk (Nat.ble ((Ug.length+([(v27,(pE,(y28.1,())))]:List (Sc5)).length) * 32) room) (let r29:List (Sc5):=Ug++[(v27,(pE,(y28.1,())))]
 ob2 (aX n (y28.2.1,y28.2.2.1,y28.2.2.2.1,pE,y28.2.2.2.2.1,y28.2.2.2.2.2.1,y28.2.2.2.2.2.2.1,y28.2.2.2.2.2.2.2.1,y28.2.2.2.2.2.2.2.2.1,y28.2.2.2.2.2.2.2.2.2.1,y28.2.2.2.2.2.2.2.2.2.2.1,y28.2.2.2.2.2.2.2.2.2.2.2.1,y28.2.2.2.2.2.2.2.2.2.2.2.2.1,y28.2.2.2.2.2.2.2.2.2.2.2.2.2.1,y28.2.2.2.2.2.2.2.2.2.2.2.2.2.2.1,y28.2.2.2.2.2.2.2.2.2.2.2.2.2.2.2.1,y28.2.2.2.2.2.2.2.2.2.2.2.2.2.2.2.2.1,y28.2.2.2.2.2.2.2.2.2.2.2.2.2.2.2.2.2.1,y28.2.2.2.2.2.2.2.2.2.2.2.2.2.2.2.2.2.2.1,y28.2.2.2.2.2.2.2.2.2.2.2.2.2.2.2.2.2.2.2.1,y28.2.2.2.2.2.2.2.2.2.2.2.2.2.2.2.2.2.2.2.2.1,y28.2.2.2.2.2.2.2.2.2.2.2.2.2.2.2.2.2.2.2.2.2.1,iL,y28.2.2.2.2.2.2.2.2.2.2.2.2.2.2.2.2.2.2.2.2.2.2.1,r29,y28.2.2.2.2.2.2.2.2.2.2.2.2.2.2.2.2.2.2.2.2.2.2.2.1,())) (fun y30 =>some (.inl (y30))) (fun y30 =>some (.inr (y30))))) (fun y28 =>some (.inr (y28.1,y28.2.1,y28.2.2.1,y28.2.2.2.1,pE,y28.2.2.2.2.1,y28.2.2.2.2.2.1,y28.2.2.2.2.2.2.1,y28.2.2.2.2.2.2.2.1,y28.2.2.2.2.2.2.2.2.1,y28.2.2.2.2.2.2.2.2.2.1,y28.2.2.2.2.2.2.2.2.2.2.1,y28.2.2.2.2.2.2.2.2.2.2.2.1,y28.2.2.2.2.2.2.2.2.2.2.2.2.1,y28.2.2.2.2.2.2.2.2.2.2.2.2.2.1,y28.2.2.2.2.2.2.2.2.2.2.2.2.2.2.1,y28.2.2.2.2.2.2.2.2.2.2.2.2.2.2.2.1,y28.2.2.2.2.2.2.2.2.2.2.2.2.2.2.2.2.1,y28.2.2.2.2.2.2.2.2.2.2.2.2.2.2.2.2.2.1,y28.2.2.2.2.2.2.2.2.2.2.2.2.2.2.2.2.2.2.1,y28.2.2.2.2.2.2.2.2.2.2.2.2.2.2.2.2.2.2.2.1,y28.2.2.2.2.2.2.2.2.2.2.2.2.2.2.2.2.2.2.2.2.1,y28.2.2.2.2.2.2.2.2.2.2.2.2.2.2.2.2.2.2.2.2.2.1,iL,y28.2.2.2.2.2.2.2.2.2.2.2.2.2.2.2.2.2.2.2.2.2.2.1,Ug,y28.2.2.2.2.2.2.2.2.2.2.2.2.2.2.2.2.2.2.2.2.2.2.2.1,())))
def jD (n:Nat) (x27:Sc0):Option (Sum (Sc0) (Int×Sc0)) :=ob (bL n (x27)) fun y54 =>ob (dD n ([48,49,50,51,52,53,54,55,56,57],y54)) fun y55 =>br y55.1 (ob2 (dY n (120,y55.2)) (fun y56 =>let v57:=y56.2.2.2.2.2.2.2.2.2.2.2.2.2.1
 br (v57 != 108) (br (decide (y56.1 > 255)) (ob2 (aW n (120,())) (fun y58 =>none) (fun y58 =>some (.inr (y58.1,y56.2.1,y56.2.2.1,y56.2.2.2.1,y56.2.2.2.2.1,y56.2.2.2.2.2.1,y56.2.2.2.2.2.2.1,y56.2.2.2.2.2.2.2.1,y56.2.2.2.2.2.2.2.2.1,y56.2.2.2.2.2.2.2.2.2.1,y56.2.2.2.2.2.2.2.2.2.2.1,y56.2.2.2.2.2.2.2.2.2.2.2.1,y56.2.2.2.2.2.2.2.2.2.2.2.2.1,y56.2.2.2.2.2.2.2.2.2.2.2.2.2.1,y56.2.2.2.2.2.2.2.2.2.2.2.2.2.2.1,y56.2.2.2.2.2.2.2.2.2.2.2.2.2.2.2.1,y56.1,y56.2.2.2.2.2.2.2.2.2.2.2.2.2.2.2.2.2)))) (ob2 (aX n (y56.2.1,y56.2.2.1,y56.2.2.2.1,y56.2.2.2.2.1,y56.2.2.2.2.2.1,y56.2.2.2.2.2.2.1,y56.2.2.2.2.2.2.2.1,y56.2.2.2.2.2.2.2.2.1,y56.2.2.2.2.2.2.2.2.2.1,y56.2.2.2.2.2.2.2.2.2.2.1,y56.2.2.2.2.2.2.2.2.2.2.2.1,y56.2.2.2.2.2.2.2.2.2.2.2.2.1,y56.2.2.2.2.2.2.2.2.2.2.2.2.2.1,y56.2.2.2.2.2.2.2.2.2.2.2.2.2.2.1,y56.2.2.2.2.2.2.2.2.2.2.2.2.2.2.2.1,y56.1,y56.2.2.2.2.2.2.2.2.2.2.2.2.2.2.2.2.2)) (fun y59 =>some (.inl (y59))) (fun y59 =>some (.inr (y59))))) (ob2 (aX n (y56.2.1,y56.2.2.1,y56.2.2.2.1,y56.2.2.2.2.1,y56.2.2.2.2.2.1,y56.2.2.2.2.2.2.1,y56.2.2.2.2.2.2.2.1,y56.2.2.2.2.2.2.2.2.1,y56.2.2.2.2.2.2.2.2.2.1,y56.2.2.2.2.2.2.2.2.2.2.1,y56.2.2.2.2.2.2.2.2.2.2.2.1,y56.2.2.2.2.2.2.2.2.2.2.2.2.1,y56.2.2.2.2.2.2.2.2.2.2.2.2.2.1,y56.2.2.2.2.2.2.2.2.2.2.2.2.2.2.1,y56.2.2.2.2.2.2.2.2.2.2.2.2.2.2.2.1,y56.1,y56.2.2.2.2.2.2.2.2.2.2.2.2.2.2.2.2.2)) (fun y60 =>some (.inl (y60))) (fun y60 =>some (.inr (y60))))) (fun y56 =>some (.inr (y56)))) (ob2 (aX n (y55.2)) (fun y61 =>some (.inl (y61))) (fun y61 =>some (.inr (y61))))
def iQ (n:Nat) (x:Sc0):Option (Sum (Sc0) (Int×Sc0)) :=let s1:=x.1
 let wM:=x.2.1
 let at3:=x.2.2.1
 let pE:=x.2.2.2.1
 let tY:=x.2.2.2.2.1
 let yT:=x.2.2.2.2.2.1
 let N7:=x.2.2.2.2.2.2.1
 let M8:=x.2.2.2.2.2.2.2.1
 let yU:=x.2.2.2.2.2.2.2.2.1
 let N10:=x.2.2.2.2.2.2.2.2.2.1
 let M11:=x.2.2.2.2.2.2.2.2.2.2.1
 let yV:=x.2.2.2.2.2.2.2.2.2.2.2.1
 let Dz:=x.2.2.2.2.2.2.2.2.2.2.2.2.1
 let tZ:=x.2.2.2.2.2.2.2.2.2.2.2.2.2.1
 let uD:=x.2.2.2.2.2.2.2.2.2.2.2.2.2.2.1
 br (Dz==108) (jn (jD n) (s1,wM,at3,pE,tY,yT,N7,M8,yU,N10,M11,yV,Dz,tZ,uD,(-1),x.2.2.2.2.2.2.2.2.2.2.2.2.2.2.2.2)) (jn (jD n) (s1,wM,at3,pE,tY,yT,N7,M8,yU,N10,M11,yV,Dz,tZ,uD,0,x.2.2.2.2.2.2.2.2.2.2.2.2.2.2.2.2))
def nT (n:Nat) (x:Sc0):Option (Sum (Sc0) (Int×Sc0)) :=ob (eB n ([],x)) fun y27 =>br (y27.1==[]) (ob2 (aW n (120,())) (fun y28 =>none) (fun y28 =>some (.inr (y28.1,y27.2.1,y27.2.2.1,y27.2.2.2.1,y27.2.2.2.2.1,y27.2.2.2.2.2.1,y27.2.2.2.2.2.2.1,y27.2.2.2.2.2.2.2.1,y27.2.2.2.2.2.2.2.2.1,y27.2.2.2.2.2.2.2.2.2.1,y27.2.2.2.2.2.2.2.2.2.2.1,y27.2.2.2.2.2.2.2.2.2.2.2.1,y27.2.2.2.2.2.2.2.2.2.2.2.2.1,y27.2.2.2.2.2.2.2.2.2.2.2.2.2.1,y27.1,y27.2.2.2.2.2.2.2.2.2.2.2.2.2.2.2)))) (ob (bZ n (y27.2.1,y27.2.2.1,y27.2.2.2.1,y27.2.2.2.2.1,y27.2.2.2.2.2.1,y27.2.2.2.2.2.2.1,y27.2.2.2.2.2.2.2.1,y27.2.2.2.2.2.2.2.2.1,y27.2.2.2.2.2.2.2.2.2.1,y27.2.2.2.2.2.2.2.2.2.2.1,y27.2.2.2.2.2.2.2.2.2.2.2.1,y27.2.2.2.2.2.2.2.2.2.2.2.2.1,y27.2.2.2.2.2.2.2.2.2.2.2.2.2.1,y27.1,y27.2.2.2.2.2.2.2.2.2.2.2.2.2.2.2)) fun y29 =>some (.inl (y29)))
def eT (n:Nat) (x65:Sc0):Option (Sum (Sc0) (Int×Sc0)) :=let fE:=x65.2.2.2.2.2.2.2.2.2.2.2.2.1
 br (!(fE==123||(fE==125||(fE==58||(fE==115||(fE==121||(fE==61||(fE==100||(fE==68||(fE==103||(fE==71||(fE==104||(fE==72||(fE==110||(fE==78||(fE==112||(fE==80||(fE==120||(fE==97||(fE==105||(fE==99||(fE==98||(fE==116||(fE==84||(fE==108||(fE==113||(fE==81||(fE==114||(fE==119||false))))))))))))))))))))))))))))) (ob2 (aW n (120,())) (fun y92 =>none) (fun y92 =>some (.inr (y92.1,x65)))) (br (fE==123) (ob (mQ n (x65)) fun y93 =>some (.inl (y93))) (br (fE==125) (ob2 (qN n (x65)) (fun y94 =>some (.inl (y94))) (fun y94 =>some (.inr (y94)))) (br (fE==58) (ob2 (qO n (x65)) (fun y95 =>some (.inl (y95))) (fun y95 =>some (.inr (y95)))) (br (fE==115) (ob2 (qP n (x65)) (fun y96 =>some (.inl (y96))) (fun y96 =>some (.inr (y96)))) (br (fE==121) (ob2 (lY n (x65)) (fun y97 =>some (.inl (y97))) (fun y97 =>some (.inr (y97)))) (br (fE==61) (ob2 (aX n (x65)) (fun y98 =>some (.inl (y98))) (fun y98 =>some (.inr (y98)))) (br (fE==100) (ob2 (aX n (x65)) (fun y99 =>some (.inl (y99))) (fun y99 =>some (.inr (y99)))) (br (fE==68) (ob2 (aX n (x65)) (fun yRu =>some (.inl (yRu))) (fun yRu =>some (.inr (yRu)))) (br (fE==103) (ob2 (aX n (x65)) (fun y101 =>some (.inl (y101))) (fun y101 =>some (.inr (y101)))) (br (fE==71) (ob2 (aX n (x65)) (fun y102 =>some (.inl (y102))) (fun y102 =>some (.inr (y102)))) (br (fE==104) (ob2 (aX n (x65)) (fun yRv =>some (.inl (yRv))) (fun yRv =>some (.inr (yRv)))) (br (fE==72) (ob2 (aX n (x65)) (fun y104 =>some (.inl (y104))) (fun y104 =>some (.inr (y104)))) (br (fE==110) (ob2 (aX n (x65)) (fun yRw =>some (.inl (yRw))) (fun yRw =>some (.inr (yRw)))) (br (fE==78) (ob2 (aX n (x65)) (fun yRx =>some (.inl (yRx))) (fun yRx =>some (.inr (yRx)))) (br (fE==112) (ob2 (aX n (x65)) (fun yRy =>some (.inl (yRy))) (fun yRy =>some (.inr (yRy)))) (br (fE==80) (ob2 (aX n (x65)) (fun yRz =>some (.inl (yRz))) (fun yRz =>some (.inr (yRz)))) (br (fE==120) (ob2 (aX n (x65)) (fun ySa =>some (.inl (ySa))) (fun ySa =>some (.inr (ySa)))) (br (fE==97) (ob2 (kV n (x65)) (fun ySb =>some (.inl (ySb))) (fun ySb =>some (.inr (ySb)))) (br (fE==105) (ob2 (kV n (x65)) (fun ySc =>some (.inl (ySc))) (fun ySc =>some (.inr (ySc)))) (br (fE==99) (ob2 (kV n (x65)) (fun y112 =>some (.inl (y112))) (fun y112 =>some (.inr (y112)))) (br (fE==98) (ob2 (jQ n (x65)) (fun y113 =>some (.inl (y113))) (fun y113 =>some (.inr (y113)))) (br (fE==116) (ob2 (jQ n (x65)) (fun y114 =>some (.inl (y114))) (fun y114 =>some (.inr (y114)))) (br (fE==84) (ob2 (jQ n (x65)) (fun y115 =>some (.inl (y115))) (fun y115 =>some (.inr (y115)))) (br (fE==108) (ob2 (iQ n (x65)) (fun ySd =>some (.inl (ySd))) (fun ySd =>some (.inr (ySd)))) (br (fE==113) (ob2 (iQ n (x65)) (fun ySe =>some (.inl (ySe))) (fun ySe =>some (.inr (ySe)))) (br (fE==81) (ob2 (iQ n (x65)) (fun ySf =>some (.inl (ySf))) (fun ySf =>some (.inr (ySf)))) (br (fE==114) (ob2 (nT n (x65)) (fun ySg =>some (.inl (ySg))) (fun ySg =>some (.inr (ySg)))) (br (fE==119) (ob2 (nT n (x65)) (fun ySh =>some (.inl (ySh))) (fun ySh =>some (.inr (ySh)))) (none)))))))))))))))))))))))))))))
def gI (n:Nat) (x31:Int×Sc0):Option (Sum (Sc0) (Int×Sc0)) :=let ySi:=x31.1
 ob2 (fO n (x31.2)) (fun y59 =>ob (strings_IndexByte n ([125,58],y59.1)) fun y60 =>br (decide (y60≥0)) (br (decide (ySi > 0)) (ob2 (aW n (121,())) (fun y61 =>none) (fun y61 =>some (.inr (y61.1,y59.2.1,y59.2.2.1,y59.2.2.2.1,y59.2.2.2.2.1,y59.2.2.2.2.2.1,y59.2.2.2.2.2.2.1,y59.2.2.2.2.2.2.2.1,y59.2.2.2.2.2.2.2.2.1,y59.2.2.2.2.2.2.2.2.2.1,y59.2.2.2.2.2.2.2.2.2.2.1,y59.2.2.2.2.2.2.2.2.2.2.2.1,y59.2.2.2.2.2.2.2.2.2.2.2.2.1,y59.1,y59.2.2.2.2.2.2.2.2.2.2.2.2.2.2)))) (br y59.2.2.2.2.2.2.2.2.2.2.2.2.1 (ob2 (aW n (121,())) (fun y62 =>none) (fun y62 =>some (.inr (y62.1,y59.2.1,y59.2.2.1,y59.2.2.2.1,y59.2.2.2.2.1,y59.2.2.2.2.2.1,y59.2.2.2.2.2.2.1,y59.2.2.2.2.2.2.2.1,y59.2.2.2.2.2.2.2.2.1,y59.2.2.2.2.2.2.2.2.2.1,y59.2.2.2.2.2.2.2.2.2.2.1,y59.2.2.2.2.2.2.2.2.2.2.2.1,y59.2.2.2.2.2.2.2.2.2.2.2.2.1,y59.1,y59.2.2.2.2.2.2.2.2.2.2.2.2.2.2)))) (ob (strings_IndexByte n ([113,81],y59.1)) fun y63 =>br (decide (y63≥0)) (br (decide (ySi > 1)) (ob2 (aW n (121,())) (fun y64 =>none) (fun y64 =>some (.inr (y64.1,y59.2.1,y59.2.2.1,y59.2.2.2.1,y59.2.2.2.2.1,y59.2.2.2.2.2.1,y59.2.2.2.2.2.2.1,y59.2.2.2.2.2.2.2.1,y59.2.2.2.2.2.2.2.2.1,y59.2.2.2.2.2.2.2.2.2.1,y59.2.2.2.2.2.2.2.2.2.2.1,y59.2.2.2.2.2.2.2.2.2.2.2.1,y59.2.2.2.2.2.2.2.2.2.2.2.2.1,y59.1,y59.2.2.2.2.2.2.2.2.2.2.2.2.2.2)))) (jn (eT n) (y59.2.1,y59.2.2.1,y59.2.2.2.1,y59.2.2.2.2.1,y59.2.2.2.2.2.1,y59.2.2.2.2.2.2.1,y59.2.2.2.2.2.2.2.1,y59.2.2.2.2.2.2.2.2.1,y59.2.2.2.2.2.2.2.2.2.1,y59.2.2.2.2.2.2.2.2.2.2.1,y59.2.2.2.2.2.2.2.2.2.2.2.1,y59.2.2.2.2.2.2.2.2.2.2.2.2.1,y59.1,y59.2.2.2.2.2.2.2.2.2.2.2.2.2.2))) (jn (eT n) (y59.2.1,y59.2.2.1,y59.2.2.2.1,y59.2.2.2.2.1,y59.2.2.2.2.2.1,y59.2.2.2.2.2.2.1,y59.2.2.2.2.2.2.2.1,y59.2.2.2.2.2.2.2.2.1,y59.2.2.2.2.2.2.2.2.2.1,y59.2.2.2.2.2.2.2.2.2.2.1,y59.2.2.2.2.2.2.2.2.2.2.2.1,y59.2.2.2.2.2.2.2.2.2.2.2.2.1,y59.1,y59.2.2.2.2.2.2.2.2.2.2.2.2.2.2))))) (ob (strings_IndexByte n ([113,81],y59.1)) fun qF =>br (decide (qF≥0)) (br (decide (ySi > 1)) (ob2 (aW n (121,())) (fun fD =>none) (fun fD =>some (.inr (fD.1,y59.2.1,y59.2.2.1,y59.2.2.2.1,y59.2.2.2.2.1,y59.2.2.2.2.2.1,y59.2.2.2.2.2.2.1,y59.2.2.2.2.2.2.2.1,y59.2.2.2.2.2.2.2.2.1,y59.2.2.2.2.2.2.2.2.2.1,y59.2.2.2.2.2.2.2.2.2.2.1,y59.2.2.2.2.2.2.2.2.2.2.2.1,y59.2.2.2.2.2.2.2.2.2.2.2.2.1,y59.1,y59.2.2.2.2.2.2.2.2.2.2.2.2.2.2)))) (jn (eT n) (y59.2.1,y59.2.2.1,y59.2.2.2.1,y59.2.2.2.2.1,y59.2.2.2.2.2.1,y59.2.2.2.2.2.2.1,y59.2.2.2.2.2.2.2.1,y59.2.2.2.2.2.2.2.2.1,y59.2.2.2.2.2.2.2.2.2.1,y59.2.2.2.2.2.2.2.2.2.2.1,y59.2.2.2.2.2.2.2.2.2.2.2.1,y59.2.2.2.2.2.2.2.2.2.2.2.2.1,y59.1,y59.2.2.2.2.2.2.2.2.2.2.2.2.2.2))) (jn (eT n) (y59.2.1,y59.2.2.1,y59.2.2.2.1,y59.2.2.2.2.1,y59.2.2.2.2.2.1,y59.2.2.2.2.2.2.1,y59.2.2.2.2.2.2.2.1,y59.2.2.2.2.2.2.2.2.1,y59.2.2.2.2.2.2.2.2.2.1,y59.2.2.2.2.2.2.2.2.2.2.1,y59.2.2.2.2.2.2.2.2.2.2.2.1,y59.2.2.2.2.2.2.2.2.2.2.2.2.1,y59.1,y59.2.2.2.2.2.2.2.2.2.2.2.2.2.2)))) (fun y59 =>some (.inr (y59)))
def nU (n:Nat) (x:Sc0):Option (Sum (Sc0) (Int×Sc0)) :=let s1:=x.1
 let wM:=x.2.1
 let at3:=x.2.2.1
 let tY:=x.2.2.2.2.1
 ob2 (lX n (s1,wM,at3,at3,tY,0,0,0,0,0,0,false,0,[],[],0,0,(-1),[],false,false,x.2.2.2.2.2.2.2.2.2.2.2.2.2.2.2.2.2.2.2.2.2)) (fun y27 =>ob (bL n (y27.2)) fun y28 =>ob (dH n ([33],y28)) fun y29 =>br y29.1 (ob (bL n (y29.2.1,y29.2.2.1,y29.2.2.2.1,y29.2.2.2.2.1,y29.2.2.2.2.2.1,y29.2.2.2.2.2.2.1,y29.2.2.2.2.2.2.2.1,y29.2.2.2.2.2.2.2.2.1,y29.2.2.2.2.2.2.2.2.2.1,y29.2.2.2.2.2.2.2.2.2.2.1,y29.2.2.2.2.2.2.2.2.2.2.2.1,true,y29.2.2.2.2.2.2.2.2.2.2.2.2.2)) fun y30 =>jn (gI n) (y27.1,y30)) (jn (gI n) (y27.1,y29.2))) (fun y27 =>some (.inr (y27)))
def kI (n:Nat) (g1:Int×Int×List UInt8×Bool×Int×Int×Bool×Int×Int×Int×Int×Int×Int×Bool×Int×List UInt8×List UInt8×Int×Int×Int×List (List UInt8×Int×Unit)×Bool×Bool×List (List (NdT)×Bool×Unit)×List (Sc1)×List (Sc5)×List (Sc5)×List (List UInt8×Int)×Unit->Option (Sum (Sc0) (Int×Sc0))) (nL:Int×Bool×Int×Int×List UInt8×Bool×Int×Int×Bool×Int×Int×Int×Int×Int×Int×Bool×Int×List UInt8×List UInt8×Int×Int×Int×List (List UInt8×Int×Unit)×Bool×Bool×List (List (NdT)×Bool×Unit)×List (Sc1)×List (Sc5)×List (Sc5)×List (List UInt8×Int)×Sc5):Option (Sum (Sc0) (Int×Sc0)) :=let yZj:Int:=nL.1
 let yZk:Bool:=nL.2.1
 let yWt:Int:=nL.2.2.1
 let yWu:Int:=nL.2.2.2.1
 let yZl:List UInt8:=nL.2.2.2.2.1
 let yNn:Bool:=nL.2.2.2.2.2.1
 let yUp:Int:=nL.2.2.2.2.2.2.1
 let yBe:Bool:=nL.2.2.2.2.2.2.2.2.1
 let yGe:Int:=nL.2.2.2.2.2.2.2.2.2.1
 let yZm:Int:=nL.2.2.2.2.2.2.2.2.2.2.1
 let yZn:Int:=nL.2.2.2.2.2.2.2.2.2.2.2.1
 let yGf:Int:=nL.2.2.2.2.2.2.2.2.2.2.2.2.1
 let yZo:Int:=nL.2.2.2.2.2.2.2.2.2.2.2.2.2.1
 let yZp:Int:=nL.2.2.2.2.2.2.2.2.2.2.2.2.2.2.1
 let yNo:Bool:=nL.2.2.2.2.2.2.2.2.2.2.2.2.2.2.2.1
 let yUq:Int:=nL.2.2.2.2.2.2.2.2.2.2.2.2.2.2.2.2.1
 let yGg:List UInt8:=nL.2.2.2.2.2.2.2.2.2.2.2.2.2.2.2.2.2.1
 let yGh:List UInt8:=nL.2.2.2.2.2.2.2.2.2.2.2.2.2.2.2.2.2.2.1
 let yZq:Int:=nL.2.2.2.2.2.2.2.2.2.2.2.2.2.2.2.2.2.2.2.1
 let yUr:Int:=nL.2.2.2.2.2.2.2.2.2.2.2.2.2.2.2.2.2.2.2.2.1
 let yNp:Int:=nL.2.2.2.2.2.2.2.2.2.2.2.2.2.2.2.2.2.2.2.2.2.1
 let yBf:List (List UInt8×Int×Unit):=nL.2.2.2.2.2.2.2.2.2.2.2.2.2.2.2.2.2.2.2.2.2.2.1
 let yNq:Bool:=nL.2.2.2.2.2.2.2.2.2.2.2.2.2.2.2.2.2.2.2.2.2.2.2.1
 let yBg:Bool:=nL.2.2.2.2.2.2.2.2.2.2.2.2.2.2.2.2.2.2.2.2.2.2.2.2.1
 let yNr:List (List (NdT)×Bool×Unit):=nL.2.2.2.2.2.2.2.2.2.2.2.2.2.2.2.2.2.2.2.2.2.2.2.2.2.1
 let nC:List (Sc1):=nL.2.2.2.2.2.2.2.2.2.2.2.2.2.2.2.2.2.2.2.2.2.2.2.2.2.2.1
 let yNs:List (Sc5):=nL.2.2.2.2.2.2.2.2.2.2.2.2.2.2.2.2.2.2.2.2.2.2.2.2.2.2.2.1
 let yNt:List (Sc5):=nL.2.2.2.2.2.2.2.2.2.2.2.2.2.2.2.2.2.2.2.2.2.2.2.2.2.2.2.2.1
 let yNu:List (List UInt8×Int):=nL.2.2.2.2.2.2.2.2.2.2.2.2.2.2.2.2.2.2.2.2.2.2.2.2.2.2.2.2.2.1
 let qQ:Int:=nL.2.2.2.2.2.2.2.2.2.2.2.2.2.2.2.2.2.2.2.2.2.2.2.2.2.2.2.2.2.2.1
 let yUs:Int:=nL.2.2.2.2.2.2.2.2.2.2.2.2.2.2.2.2.2.2.2.2.2.2.2.2.2.2.2.2.2.2.2.1
 br (!yZk) (ob2 (aW n (122,())) (fun y158 =>none) (fun y158 =>some (.inr (y158.1,yZl,yNn,yUp,yUs,yBe,yGe,yZm,yZn,yGf,yZo,yZp,yNo,yUq,yGg,yGh,yZq,yUr,yNp,yBf,yNq,yBg,yNr,nC,yNs,yNt,yNu,())))) (chk ((inB qQ (nC.length)&&decide (0+(nC.length)<=nC.length))) (chk (decide (0+qQ.toNat<nC.length)) (let xEc:List (Sc1):=nC.set (0+qQ.toNat) ((((nC.getD (0+qQ.toNat) (Ty.dflt aC)).1.1.1,((nC.getD (0+qQ.toNat) (Ty.dflt aC)).1.1.2.1,((nC.getD (0+qQ.toNat) (Ty.dflt aC)).1.1.2.2.1,()))),(((nC.getD (0+qQ.toNat) (Ty.dflt aC)).1.2.1.1,((nC.getD (0+qQ.toNat) (Ty.dflt aC)).1.2.1.2.1,((nC.getD (0+qQ.toNat) (Ty.dflt aC)).1.2.1.2.2.1,()))),((nC.getD (0+qQ.toNat) (Ty.dflt aC)).1.2.2.1,()))),((nC.getD (0+qQ.toNat) (Ty.dflt aC)).2.1,((nC.getD (0+qQ.toNat) (Ty.dflt aC)).2.2.1,((nC.getD (0+qQ.toNat) (Ty.dflt aC)).2.2.2.1,((nC.getD (0+qQ.toNat) (Ty.dflt aC)).2.2.2.2.1,(yZj,((nC.getD (0+qQ.toNat) (Ty.dflt aC)).2.2.2.2.2.2.1,((nC.getD (0+qQ.toNat) (Ty.dflt aC)).2.2.2.2.2.2.2.1,((nC.getD (0+qQ.toNat) (Ty.dflt aC)).2.2.2.2.2.2.2.2.1,((nC.getD (0+qQ.toNat) (Ty.dflt aC)).2.2.2.2.2.2.2.2.2.1,()))))))))))
 let v160:Int:=IntKind.wrap .i64 (yWu+1)
 g1 (yWt,v160,yZl,yNn,yUp,yUs,yBe,yGe,yZm,yZn,yGf,yZo,yZp,yNo,yUq,yGg,yGh,yZq,yUr,yNp,yBf,yNq,yBg,yNr,xEc,yNs,yNt,yNu,()))))
def Db (n:Nat) (g1:Int×Int×List UInt8×Bool×Int×Int×Bool×Int×Int×Int×Int×Int×Int×Bool×Int×List UInt8×List UInt8×Int×Int×Int×List (List UInt8×Int×Unit)×Bool×Bool×List (List (NdT)×Bool×Unit)×List (Sc1)×List (Sc5)×List (Sc5)×List (List UInt8×Int)×Unit->Option (Sum (Sc0) (Int×Sc0))) (x92:Int×Int×Sc0):Option (Sum (Sc0) (Int×Sc0)) :=let yBh:=x92.1
 let zH:=x92.2.1
 let s95:=x92.2.2.1
 let yUt:=x92.2.2.2.1
 let yZr:=x92.2.2.2.2.1
 let yGi:=x92.2.2.2.2.2.1
 let yGj:=x92.2.2.2.2.2.2.1
 let yGk:=x92.2.2.2.2.2.2.2.1
 let yZs:=x92.2.2.2.2.2.2.2.2.1
 let yZt:=x92.2.2.2.2.2.2.2.2.2.1
 let yGl:=x92.2.2.2.2.2.2.2.2.2.2.1
 let yZu:=x92.2.2.2.2.2.2.2.2.2.2.2.1
 let yZv:=x92.2.2.2.2.2.2.2.2.2.2.2.2.1
 let yNv:=x92.2.2.2.2.2.2.2.2.2.2.2.2.2.1
 let yUu:=x92.2.2.2.2.2.2.2.2.2.2.2.2.2.2.1
 let yGm:=x92.2.2.2.2.2.2.2.2.2.2.2.2.2.2.2.1
 let yGn:=x92.2.2.2.2.2.2.2.2.2.2.2.2.2.2.2.2.1
 let yZw:=x92.2.2.2.2.2.2.2.2.2.2.2.2.2.2.2.2.2.1
 let yUv:=x92.2.2.2.2.2.2.2.2.2.2.2.2.2.2.2.2.2.2.1
 let yNw:=x92.2.2.2.2.2.2.2.2.2.2.2.2.2.2.2.2.2.2.2.1
 let yBi:=x92.2.2.2.2.2.2.2.2.2.2.2.2.2.2.2.2.2.2.2.2.1
 let yNx:=x92.2.2.2.2.2.2.2.2.2.2.2.2.2.2.2.2.2.2.2.2.2.1
 let yBj:=x92.2.2.2.2.2.2.2.2.2.2.2.2.2.2.2.2.2.2.2.2.2.2.1
 let Qt:=x92.2.2.2.2.2.2.2.2.2.2.2.2.2.2.2.2.2.2.2.2.2.2.2.1
 let Lm:=x92.2.2.2.2.2.2.2.2.2.2.2.2.2.2.2.2.2.2.2.2.2.2.2.2.1
 let Qu:=x92.2.2.2.2.2.2.2.2.2.2.2.2.2.2.2.2.2.2.2.2.2.2.2.2.2.1
 let xE:=x92.2.2.2.2.2.2.2.2.2.2.2.2.2.2.2.2.2.2.2.2.2.2.2.2.2.2.1
 let Lp:=x92.2.2.2.2.2.2.2.2.2.2.2.2.2.2.2.2.2.2.2.2.2.2.2.2.2.2.2.1
 br (decide (zH<yBh)) (chk ((inB zH (xE.length)&&decide (0+(xE.length)<=xE.length))) (chk (decide (0+zH.toNat<xE.length)) (let yZx:List UInt8:=(xE.getD (0+zH.toNat) (Ty.dflt gP)).2.2.1
 let xEd:List UInt8:=(xE.getD (0+zH.toNat) (Ty.dflt gP)).2.2.1
 br (xEd==[]) (let xEe:Int:=((Lm.length:Nat):Int)
 jn (kI n g1) (xEe,true,yBh,zH,s95,yUt,yZr,yGi,yGj,yGk,yZs,yZt,yGl,yZu,yZv,yNv,yUu,yGm,yGn,yZw,yUv,yNw,yBi,yNx,yBj,Qt,Lm,Qu,xE,Lp,(xE.getD (0+zH.toNat) (Ty.dflt gP)).1,(xE.getD (0+zH.toNat) (Ty.dflt gP)).2.1,(xE.getD (0+zH.toNat) (Ty.dflt gP)).2.2.1,())) (jn (kI n g1) (jK .str 0 Lp yZx,(zSl .str Lp yZx),yBh,zH,s95,yUt,yZr,yGi,yGj,yGk,yZs,yZt,yGl,yZu,yZv,yNv,yUu,yGm,yGn,yZw,yUv,yNw,yBi,yNx,yBj,Qt,Lm,Qu,xE,Lp,(xE.getD (0+zH.toNat) (Ty.dflt gP)).1,(xE.getD (0+zH.toNat) (Ty.dflt gP)).2.1,(xE.getD (0+zH.toNat) (Ty.dflt gP)).2.2.1,()))))) (some (.inl (x92.2.2)))
def oI (n:Nat) (x64:Sc0):Option (Sum (Sc0) (Int×Sc0)) :=let xCj:=x64.2.2.2.2.2.2.2.2.2.2.2.2.2.2.2.2.2.2.2.2.2.2.2.2.1
 let v91:Int:=((xCj.length:Nat):Int)
 fix (Db n) n (v91,0,x64)
def Dc (n:Nat) (g0:List UInt8×Bool×Int×Int×Bool×Int×Int×Int×Int×Int×Int×Bool×Int×List UInt8×List UInt8×Int×Int×Int×List (List UInt8×Int×Unit)×Bool×Bool×List (List (NdT)×Bool×Unit)×List (Sc1)×List (Sc5)×List (Sc5)×List (List UInt8×Int)×Unit->Option (Sum (Sc0) (Int×Sc0))) (x28:Sc0):Option (Sum (Sc0) (Int×Sc0)) :=let s29:=x28.1
 let xCk:=x28.2.1
 let yZy:=x28.2.2.1
 let Zc:=x28.2.2.2.2.2.2.2.2.2.2.2.2.2.2.2.2.2.2.2.2.2.2.2.1
 br (decide (yZy<(s29.length:Int))) (ob (dD n ([32,9,10,59],x28)) fun y55 =>br y55.1 (let v56:Int:=IntKind.wrap .i64 (y55.2.2.2.1+1)
 g0 (y55.2.1,y55.2.2.1,v56,y55.2.2.2.2)) (ob (dD n ([35],y55.2)) fun y57 =>br y57.1 (ob (eB n ([],y57.2)) fun y58 =>g0 (y58.2)) (ob2 (nU n (y57.2)) (fun y59 =>g0 (y59)) (fun y59 =>some (.inr (y59)))))) (let v60:Int:=((Zc.length:Nat):Int)
 let v61:Int:=IntKind.wrap .i64 (v60 - 1)
 br (decide (v61≥0)) (chk ((inB v61 (Zc.length)&&decide (0+(Zc.length)<=Zc.length))) (chk (decide (0+v61.toNat<Zc.length)) (let v62:Int:=(Zc.getD (0+v61.toNat) (Ty.dflt gP)).2.1
 ob2 (aW n (123,())) (fun y63 =>none) (fun y63 =>some (.inr (y63.1,s29,xCk,yZy,v62,x28.2.2.2.2)))))) (jn (oI n) (x28)))
def mR (n:Nat) (x:Sc0):Option (Sum (Sc0) (Int×Sc0)) :=ob (Zy n ()) fun y27 =>fix (Dc n) n (x)
def bV (n:Nat) (x:Sc0):Option (Int×Sc0):=ob2 (mR n x) (fun y=>some (0,y)) (fun y=>some y)
def sK (n:Nat) (x:List UInt8×Bool):Option ((Bool×List (List (NdT)×Bool×Unit)×List (Sc1)×Unit)×Int×Int) :=let s_0:=x.1
 let yKk:=x.2
 br (decide ((s_0.length:Int) > 4000)) (some ((false,([],([],()))),0,2)) (br (s_0==[35,110]) (ob (bV n (s_0,yKk,2,0,true,0,0,0,0,0,0,false,0,[],[],0,0,0,[],false,false,[],[],[],[],[],())) fun y1 =>br (y1.1 != 0) (some ((false,([],([],()))),y1.2.2.2.2.1,y1.1)) (some ((y1.2.2.2.2.2.1,(y1.2.2.2.2.2.2.2.2.2.2.2.2.2.2.2.2.2.2.2.2.2.2.1,(y1.2.2.2.2.2.2.2.2.2.2.2.2.2.2.2.2.2.2.2.2.2.2.2.1,()))),0,0))) (ob (strings_HasPrefix n (s_0,[35,110,10])) fun y2 =>br y2 (ob (bV n (s_0,yKk,2,0,true,0,0,0,0,0,0,false,0,[],[],0,0,0,[],false,false,[],[],[],[],[],())) fun y3 =>br (y3.1 != 0) (some ((false,([],([],()))),y3.2.2.2.2.1,y3.1)) (some ((y3.2.2.2.2.2.1,(y3.2.2.2.2.2.2.2.2.2.2.2.2.2.2.2.2.2.2.2.2.2.2.1,(y3.2.2.2.2.2.2.2.2.2.2.2.2.2.2.2.2.2.2.2.2.2.2.2.1,()))),0,0))) (ob (bV n (s_0,yKk,0,0,false,0,0,0,0,0,0,false,0,[],[],0,0,0,[],false,false,[],[],[],[],[],())) fun y4 =>br (y4.1 != 0) (some ((false,([],([],()))),y4.2.2.2.2.1,y4.1)) (some ((y4.2.2.2.2.2.1,(y4.2.2.2.2.2.2.2.2.2.2.2.2.2.2.2.2.2.2.2.2.2.2.1,(y4.2.2.2.2.2.2.2.2.2.2.2.2.2.2.2.2.2.2.2.2.2.2.2.1,()))),0,0)))))
end Go.Dec
