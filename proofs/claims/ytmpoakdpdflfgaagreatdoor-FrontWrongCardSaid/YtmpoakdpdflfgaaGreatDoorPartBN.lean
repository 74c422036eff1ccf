/- Part of a proof over this seat: a library of my own, and what it says of this seat. No statement is proved here. -/
import Derived.Test.YtmpoakdpdflfgaaGreatDoorPartBJ
import Derived.Test.YtmpoakdpdflfgaaGreatDoorPartBM
import Derived.Test.YtmpoakdpdflfgaaGreatDoorPartAJ
import Derived.Test.YtmpoakdpdflfgaaGreatDoorPartBL
import Derived.Test.YtmpoakdpdflfgaaGreatDoorProg
import Derived.KernelRfl
namespace Go.Dec
def oO (_n : Nat) (_x : (List (List UInt8)) × (List (List UInt8 × List UInt8 × Unit))) : Option (((Bool × List (List (Int × List (Int) × Int × Int × Int × Int × Int × Unit) × Bool × Unit) × List (((Int × Int × Int × Unit) × (Int × Int × Int × Unit) × Bool × Unit) × Int × List UInt8 × List UInt8 × Int × Int × Int × List (List UInt8 × Int × Unit) × Bool × Bool × Unit) × Unit) × Bool × List (List UInt8) × Bool × Unit)) := none
def rZ (_n : Nat) (_x : (List ((Bool × List (List (Int × List (Int) × Int × Int × Int × Int × Int × Unit) × Bool × Unit) × List (((Int × Int × Int × Unit) × (Int × Int × Int × Unit) × Bool × Unit) × Int × List UInt8 × List UInt8 × Int × Int × Int × List (List UInt8 × Int × Unit) × Bool × Bool × Unit) × Unit) × Bool × List (List UInt8) × Bool × Unit)) × (List UInt8) × (List (List UInt8 × List UInt8 × Unit)) × (Bool)) : Option ((List ((Bool × List (List (Int × List (Int) × Int × Int × Int × Int × Int × Unit) × Bool × Unit) × List (((Int × Int × Int × Unit) × (Int × Int × Int × Unit) × Bool × Unit) × Int × List UInt8 × List UInt8 × Int × Int × Int × List (List UInt8 × Int × Unit) × Bool × Bool × Unit) × Unit) × Bool × List (List UInt8) × Bool × Unit) × List (Bool) × Bool × List (Int × Int × Int × Int × Int × List UInt8 × List UInt8 × Bool × Bool × Bool × List (Bool × Int × Unit) × List (List UInt8 × Bool × Unit) × Unit) × List (Bool) × List (List (List UInt8 × Bool × Unit)) × List (List UInt8 × Bool × Bool × Unit) × List (List UInt8 × Bool × Unit) × List (List UInt8 × List UInt8 × Unit) × List (Int) × Int × Int × Int × Unit) × (Int)) := none
def sD (_n : Nat) (_x : (List ((Bool × List (List (Int × List (Int) × Int × Int × Int × Int × Int × Unit) × Bool × Unit) × List (((Int × Int × Int × Unit) × (Int × Int × Int × Unit) × Bool × Unit) × Int × List UInt8 × List UInt8 × Int × Int × Int × List (List UInt8 × Int × Unit) × Bool × Bool × Unit) × Unit) × Bool × List (List UInt8) × Bool × Unit) × List (Bool) × Bool × List (Int × Int × Int × Int × Int × List UInt8 × List UInt8 × Bool × Bool × Bool × List (Bool × Int × Unit) × List (List UInt8 × Bool × Unit) × Unit) × List (Bool) × List (List (List UInt8 × Bool × Unit)) × List (List UInt8 × Bool × Bool × Unit) × List (List UInt8 × Bool × Unit) × List (List UInt8 × List UInt8 × Unit) × List (Int) × Int × Int × Int × Unit) × (Int)) : Option ((List ((Bool × List (List (Int × List (Int) × Int × Int × Int × Int × Int × Unit) × Bool × Unit) × List (((Int × Int × Int × Unit) × (Int × Int × Int × Unit) × Bool × Unit) × Int × List UInt8 × List UInt8 × Int × Int × Int × List (List UInt8 × Int × Unit) × Bool × Bool × Unit) × Unit) × Bool × List (List UInt8) × Bool × Unit) × List (Bool) × Bool × List (Int × Int × Int × Int × Int × List UInt8 × List UInt8 × Bool × Bool × Bool × List (Bool × Int × Unit) × List (List UInt8 × Bool × Unit) × Unit) × List (Bool) × List (List (List UInt8 × Bool × Unit)) × List (List UInt8 × Bool × Bool × Unit) × List (List UInt8 × Bool × Unit) × List (List UInt8 × List UInt8 × Unit) × List (Int) × Int × Int × Int × Unit) × (Int)) := none
def sF (_n : Nat) (_x : (List ((Bool × List (List (Int × List (Int) × Int × Int × Int × Int × Int × Unit) × Bool × Unit) × List (((Int × Int × Int × Unit) × (Int × Int × Int × Unit) × Bool × Unit) × Int × List UInt8 × List UInt8 × Int × Int × Int × List (List UInt8 × Int × Unit) × Bool × Bool × Unit) × Unit) × Bool × List (List UInt8) × Bool × Unit)) × (List UInt8) × (List (List UInt8 × List UInt8 × Unit)) × (Int)) : Option ((List UInt8 × List (List UInt8 × List UInt8 × Unit) × List (Int) × Int × Int × Unit) × (Int)) := none
end Go.Dec
namespace Go.Dec
open Go.Proofs
theorem wM {P : Program} {f : FuncId} {ts rs : List Ty} {F : bU ts -> Option (bU rs)} (h : fE P f = true) (hF : ∀ x, F x = none) : Pure P f ts rs F := ⟨h, fun x y e => by rw [hF] at e; cases e⟩
abbrev vH : List Ty := [(.slice .str), (.slice (.pair .str (.pair .str .unit)))]
abbrev vI : List Ty := [(.pair (.pair .bool (.pair (.slice (.pair (.slice (.pair (.int .i64) (.pair (.arr 4 (.int .u64)) (.pair (.int .i64) (.pair (.int .i64) (.pair (.int .i64) (.pair (.int .i64) (.pair (.int .i64) .unit)))))))) (.pair .bool .unit))) (.pair (.slice (.pair (.pair (.pair (.int .i64) (.pair (.int .i64) (.pair (.int .i64) .unit))) (.pair (.pair (.int .i64) (.pair (.int .i64) (.pair (.int .i64) .unit))) (.pair .bool .unit))) (.pair (.int .u8) (.pair .str (.pair .str (.pair (.int .i64) (.pair (.int .i64) (.pair (.int .i64) (.pair (.slice (.pair .str (.pair (.int .i64) .unit))) (.pair .bool (.pair .bool .unit))))))))))) .unit))) (.pair .bool (.pair (.slice .str) (.pair .bool .unit))))]
theorem Ao (n : Nat) : Pure Tryz.prog 109 vH vI (oO n) := wM (by kernel_rfl) (fun _ => rfl)
abbrev yB : List Ty := [(.slice (.pair (.pair .bool (.pair (.slice (.pair (.slice (.pair (.int .i64) (.pair (.arr 4 (.int .u64)) (.pair (.int .i64) (.pair (.int .i64) (.pair (.int .i64) (.pair (.int .i64) (.pair (.int .i64) .unit)))))))) (.pair .bool .unit))) (.pair (.slice (.pair (.pair (.pair (.int .i64) (.pair (.int .i64) (.pair (.int .i64) .unit))) (.pair (.pair (.int .i64) (.pair (.int .i64) (.pair (.int .i64) .unit))) (.pair .bool .unit))) (.pair (.int .u8) (.pair .str (.pair .str (.pair (.int .i64) (.pair (.int .i64) (.pair (.int .i64) (.pair (.slice (.pair .str (.pair (.int .i64) .unit))) (.pair .bool (.pair .bool .unit))))))))))) .unit))) (.pair .bool (.pair (.slice .str) (.pair .bool .unit))))), .str, (.slice (.pair .str (.pair .str .unit))), .bool]
abbrev yC : List Ty := [(.pair (.slice (.pair (.pair .bool (.pair (.slice (.pair (.slice (.pair (.int .i64) (.pair (.arr 4 (.int .u64)) (.pair (.int .i64) (.pair (.int .i64) (.pair (.int .i64) (.pair (.int .i64) (.pair (.int .i64) .unit)))))))) (.pair .bool .unit))) (.pair (.slice (.pair (.pair (.pair (.int .i64) (.pair (.int .i64) (.pair (.int .i64) .unit))) (.pair (.pair (.int .i64) (.pair (.int .i64) (.pair (.int .i64) .unit))) (.pair .bool .unit))) (.pair (.int .u8) (.pair .str (.pair .str (.pair (.int .i64) (.pair (.int .i64) (.pair (.int .i64) (.pair (.slice (.pair .str (.pair (.int .i64) .unit))) (.pair .bool (.pair .bool .unit))))))))))) .unit))) (.pair .bool (.pair (.slice .str) (.pair .bool .unit))))) (.pair (.slice .bool) (.pair .bool (.pair (.slice (.pair (.int .i64) (.pair (.int .i64) (.pair (.int .i64) (.pair (.int .i64) (.pair (.int .i64) (.pair .str (.pair .str (.pair .bool (.pair .bool (.pair .bool (.pair (.slice (.pair .bool (.pair (.int .i64) .unit))) (.pair (.slice (.pair .str (.pair .bool .unit))) .unit))))))))))))) (.pair (.slice .bool) (.pair (.slice (.slice (.pair .str (.pair .bool .unit)))) (.pair (.slice (.pair .str (.pair .bool (.pair .bool .unit)))) (.pair (.slice (.pair .str (.pair .bool .unit))) (.pair (.slice (.pair .str (.pair .str .unit))) (.pair (.slice (.int .i64)) (.pair (.int .i64) (.pair (.int .i64) (.pair (.int .i64) .unit))))))))))))), (.int .i64)]
theorem Dy (n : Nat) : Pure Tryz.prog 42 yB yC (rZ n) := wM (by kernel_rfl) (fun _ => rfl)
abbrev yD : List Ty := [(.pair (.slice (.pair (.pair .bool (.pair (.slice (.pair (.slice (.pair (.int .i64) (.pair (.arr 4 (.int .u64)) (.pair (.int .i64) (.pair (.int .i64) (.pair (.int .i64) (.pair (.int .i64) (.pair (.int .i64) .unit)))))))) (.pair .bool .unit))) (.pair (.slice (.pair (.pair (.pair (.int .i64) (.pair (.int .i64) (.pair (.int .i64) .unit))) (.pair (.pair (.int .i64) (.pair (.int .i64) (.pair (.int .i64) .unit))) (.pair .bool .unit))) (.pair (.int .u8) (.pair .str (.pair .str (.pair (.int .i64) (.pair (.int .i64) (.pair (.int .i64) (.pair (.slice (.pair .str (.pair (.int .i64) .unit))) (.pair .bool (.pair .bool .unit))))))))))) .unit))) (.pair .bool (.pair (.slice .str) (.pair .bool .unit))))) (.pair (.slice .bool) (.pair .bool (.pair (.slice (.pair (.int .i64) (.pair (.int .i64) (.pair (.int .i64) (.pair (.int .i64) (.pair (.int .i64) (.pair .str (.pair .str (.pair .bool (.pair .bool (.pair .bool (.pair (.slice (.pair .bool (.pair (.int .i64) .unit))) (.pair (.slice (.pair .str (.pair .bool .unit))) .unit))))))))))))) (.pair (.slice .bool) (.pair (.slice (.slice (.pair .str (.pair .bool .unit)))) (.pair (.slice (.pair .str (.pair .bool (.pair .bool .unit)))) (.pair (.slice (.pair .str (.pair .bool .unit))) (.pair (.slice (.pair .str (.pair .str .unit))) (.pair (.slice (.int .i64)) (.pair (.int .i64) (.pair (.int .i64) (.pair (.int .i64) .unit))))))))))))), (.int .i64)]
abbrev yE : List Ty := [(.pair (.slice (.pair (.pair .bool (.pair (.slice (.pair (.slice (.pair (.int .i64) (.pair (.arr 4 (.int .u64)) (.pair (.int .i64) (.pair (.int .i64) (.pair (.int .i64) (.pair (.int .i64) (.pair (.int .i64) .unit)))))))) (.pair .bool .unit))) (.pair (.slice (.pair (.pair (.pair (.int .i64) (.pair (.int .i64) (.pair (.int .i64) .unit))) (.pair (.pair (.int .i64) (.pair (.int .i64) (.pair (.int .i64) .unit))) (.pair .bool .unit))) (.pair (.int .u8) (.pair .str (.pair .str (.pair (.int .i64) (.pair (.int .i64) (.pair (.int .i64) (.pair (.slice (.pair .str (.pair (.int .i64) .unit))) (.pair .bool (.pair .bool .unit))))))))))) .unit))) (.pair .bool (.pair (.slice .str) (.pair .bool .unit))))) (.pair (.slice .bool) (.pair .bool (.pair (.slice (.pair (.int .i64) (.pair (.int .i64) (.pair (.int .i64) (.pair (.int .i64) (.pair (.int .i64) (.pair .str (.pair .str (.pair .bool (.pair .bool (.pair .bool (.pair (.slice (.pair .bool (.pair (.int .i64) .unit))) (.pair (.slice (.pair .str (.pair .bool .unit))) .unit))))))))))))) (.pair (.slice .bool) (.pair (.slice (.slice (.pair .str (.pair .bool .unit)))) (.pair (.slice (.pair .str (.pair .bool (.pair .bool .unit)))) (.pair (.slice (.pair .str (.pair .bool .unit))) (.pair (.slice (.pair .str (.pair .str .unit))) (.pair (.slice (.int .i64)) (.pair (.int .i64) (.pair (.int .i64) (.pair (.int .i64) .unit))))))))))))), (.int .i64)]
theorem Dz (n : Nat) : Pure Tryz.prog 43 yD yE (sD n) := wM (by kernel_rfl) (fun _ => rfl)
abbrev yF : List Ty := [(.slice (.pair (.pair .bool (.pair (.slice (.pair (.slice (.pair (.int .i64) (.pair (.arr 4 (.int .u64)) (.pair (.int .i64) (.pair (.int .i64) (.pair (.int .i64) (.pair (.int .i64) (.pair (.int .i64) .unit)))))))) (.pair .bool .unit))) (.pair (.slice (.pair (.pair (.pair (.int .i64) (.pair (.int .i64) (.pair (.int .i64) .unit))) (.pair (.pair (.int .i64) (.pair (.int .i64) (.pair (.int .i64) .unit))) (.pair .bool .unit))) (.pair (.int .u8) (.pair .str (.pair .str (.pair (.int .i64) (.pair (.int .i64) (.pair (.int .i64) (.pair (.slice (.pair .str (.pair (.int .i64) .unit))) (.pair .bool (.pair .bool .unit))))))))))) .unit))) (.pair .bool (.pair (.slice .str) (.pair .bool .unit))))), .str, (.slice (.pair .str (.pair .str .unit))), (.int .i64)]
abbrev yG : List Ty := [(.pair .str (.pair (.slice (.pair .str (.pair .str .unit))) (.pair (.slice (.int .i64)) (.pair (.int .i64) (.pair (.int .i64) .unit))))), (.int .i64)]
theorem Ea (n : Nat) : Pure Tryz.prog 45 yF yG (sF n) := wM (by kernel_rfl) (fun _ => rfl)
end Go.Dec
namespace Go.Dec
set_option linter.unusedVariables false
abbrev vJ : Ty := .pair (.int .i64) (.pair (.arr 4 (.int .u64)) (.pair (.int .i64) (.pair (.int .i64) (.pair (.int .i64) (.pair (.int .i64) (.pair (.int .i64) .unit))))))
abbrev nH : Ty := .pair (.slice vJ) (.pair .bool .unit)
abbrev Mi : Ty := .pair (.int .i64) (.pair (.int .i64) (.pair (.int .i64) .unit))
abbrev yH : Ty := .pair Mi (.pair Mi (.pair .bool .unit))
abbrev zDa : Ty := .pair .str (.pair (.int .i64) .unit)
abbrev eZ : Ty := .pair yH (.pair (.int .u8) (.pair .str (.pair .str (.pair (.int .i64) (.pair (.int .i64) (.pair (.int .i64) (.pair (.slice zDa) (.pair .bool (.pair .bool .unit)))))))))
abbrev Gq : Ty := .pair .bool (.pair (.slice nH) (.pair (.slice eZ) .unit))
abbrev jE : Ty := .pair Gq (.pair .bool (.pair (.slice .str) (.pair .bool .unit)))
abbrev lW : Ty := .pair .str (.pair .bool .unit)
abbrev fC : Ty := .pair .str (.pair .str .unit)
abbrev kD : Ty := .pair .str (.pair (.slice fC) (.pair (.slice (.int .i64)) (.pair (.int .i64) (.pair (.int .i64) .unit))))
abbrev zDb : Ty := .pair .bool (.pair (.int .i64) .unit)
abbrev iR : Ty := .pair (.int .i64) (.pair (.int .i64) (.pair (.int .i64) (.pair (.int .i64) (.pair (.int .i64) (.pair .str (.pair .str (.pair .bool (.pair .bool (.pair .bool (.pair (.slice zDb) (.pair (.slice lW) .unit)))))))))))
abbrev Xb : Ty := .pair .str (.pair .bool (.pair .bool .unit))
abbrev Yh : Ty := .pair (.slice jE) (.pair (.slice .bool) (.pair .bool (.pair (.slice iR) (.pair (.slice .bool) (.pair (.slice (.slice lW)) (.pair (.slice Xb) (.pair (.slice lW) (.pair (.slice fC) (.pair (.slice (.int .i64)) Mi)))))))))
def Fq (n : Nat) (g0 : List (List UInt8 × List UInt8 × Unit) × List (List (List UInt8)) × Int × Int × List ((Bool × List (List (Int × List (Int) × Int × Int × Int × Int × Int × Unit) × Bool × Unit) × List (((Int × Int × Int × Unit) × (Int × Int × Int × Unit) × Bool × Unit) × Int × List UInt8 × List UInt8 × Int × Int × Int × List (List UInt8 × Int × Unit) × Bool × Bool × Unit) × Unit) × Bool × List (List UInt8) × Bool × Unit) × Unit -> Option (List ((Bool × List (List (Int × List (Int) × Int × Int × Int × Int × Int × Unit) × Bool × Unit) × List (((Int × Int × Int × Unit) × (Int × Int × Int × Unit) × Bool × Unit) × Int × List UInt8 × List UInt8 × Int × Int × Int × List (List UInt8 × Int × Unit) × Bool × Bool × Unit) × Unit) × Bool × List (List UInt8) × Bool × Unit) × Int × Int)) (x2 : List (List UInt8 × List UInt8 × Unit) × List (List (List UInt8)) × Int × Int × List ((Bool × List (List (Int × List (Int) × Int × Int × Int × Int × Int × Unit) × Bool × Unit) × List (((Int × Int × Int × Unit) × (Int × Int × Int × Unit) × Bool × Unit) × Int × List UInt8 × List UInt8 × Int × Int × Int × List (List UInt8 × Int × Unit) × Bool × Bool × Unit) × Unit) × Bool × List (List UInt8) × Bool × Unit) × Unit) : Option (List ((Bool × List (List (Int × List (Int) × Int × Int × Int × Int × Int × Unit) × Bool × Unit) × List (((Int × Int × Int × Unit) × (Int × Int × Int × Unit) × Bool × Unit) × Int × List UInt8 × List UInt8 × Int × Int × Int × List (List UInt8 × Int × Unit) × Bool × Bool × Unit) × Unit) × Bool × List (List UInt8) × Bool × Unit) × Int × Int) :=
 let t_3 : List (List UInt8 × List UInt8 × Unit) := x2.1
 let zDc : List (List (List UInt8)) := x2.2.1
 let zIv : Int := x2.2.2.1
 let Sr : Int := x2.2.2.2.1
 let Dv : List ((Bool × List (List (Int × List (Int) × Int × Int × Int × Int × Int × Unit) × Bool × Unit) × List (((Int × Int × Int × Unit) × (Int × Int × Int × Unit) × Bool × Unit) × Int × List UInt8 × List UInt8 × Int × Int × Int × List (List UInt8 × Int × Unit) × Bool × Bool × Unit) × Unit) × Bool × List (List UInt8) × Bool × Unit) := x2.2.2.2.2.1
 br (decide (Sr < zIv)) (
  chk (inB Sr zDc.length) (
   let v8 : List (List UInt8) := bS (Ty.dflt (.slice .str)) zDc Sr
   ob (oO n (v8, t_3)) fun y9 =>
   chk (Nat.ble ((Dv.length + ([y9] : List ((Bool × List (List (Int × List (Int) × Int × Int × Int × Int × Int × Unit) × Bool × Unit) × List (((Int × Int × Int × Unit) × (Int × Int × Int × Unit) × Bool × Unit) × Int × List UInt8 × List UInt8 × Int × Int × Int × List (List UInt8 × Int × Unit) × Bool × Bool × Unit) × Unit) × Bool × List (List UInt8) × Bool × Unit)).length) * 96) room) (
    let v10 : Int := IntKind.wrap .i64 (Sr + 1)
    g0 (t_3, zDc, zIv, v10, Dv ++ [y9], ())))) (
  some (Dv, 0, 0))
def jF (n : Nat) (x : List UInt8 × List (List UInt8 × List UInt8 × Unit)) : Option (List ((Bool × List (List (Int × List (Int) × Int × Int × Int × Int × Int × Unit) × Bool × Unit) × List (((Int × Int × Int × Unit) × (Int × Int × Int × Unit) × Bool × Unit) × Int × List UInt8 × List UInt8 × Int × Int × Int × List (List UInt8 × Int × Unit) × Bool × Bool × Unit) × Unit) × Bool × List (List UInt8) × Bool × Unit) × Int × Int) :=
 let s_0 : List UInt8 := x.1
 let t_1 : List (List UInt8 × List UInt8 × Unit) := x.2
 ob (jN n s_0) fun y1 =>
 br (y1.2.2 != 0) (
  some ([], y1.2.1, y1.2.2)) (
  fix (Fq n) n (t_1, y1.1, (y1.1.length : Int), 0, [], ()))
def dM (n : Nat) (x : List UInt8 × List (Int) × Unit) : Option (Int × Bool × List (Int) × Unit) :=
 let s_1 : List UInt8 := x.1
 let Wu : List (Int) := x.2.1
 ob (Bg n (Wu, ())) fun y3 =>
 chk (Nat.ble ((y3.1.length + s_1.length) * 1) room) (
  some ((s_1.length : Int), false, y3.1 ++ aX s_1, ()))
def Jd (n : Nat) (g0 : List UInt8 × List (List UInt8 × Bool × Unit) × Int × Int × List (Int) × Unit -> Option (List UInt8)) (x1 : List UInt8 × List (List UInt8 × Bool × Unit) × Int × Int × List (Int) × Unit) : Option (List UInt8) :=
 let zIw : List UInt8 := x1.1
 let zDd : List (List UInt8 × Bool × Unit) := x1.2.1
 let zIa : Int := x1.2.2.1
 let Xc : Int := x1.2.2.2.1
 let Od : List (Int) := x1.2.2.2.2.1
 br (decide (Xc < zIa)) (
  chk (inB Xc zDd.length) (
   let v7 : List UInt8 × Bool × Unit := bS (Ty.dflt lW) zDd Xc
   chk (decide (zIw.length + v7.1.length <= Sw)) (
    ob (dM n (zIw ++ v7.1, Od, ())) fun y8 =>
    br v7.2.1 (
     ob (dM n ([10], y8.2.2.1, ())) fun y9 =>
     let v10 : Int := IntKind.wrap .i64 (Xc + 1)
     g0 ([], zDd, zIa, v10, y9.2.2.1, ())) (
     let v11 : Int := IntKind.wrap .i64 (Xc + 1)
     g0 ([10], zDd, zIa, v11, y8.2.2.1, ()))))) (
  ob (Builder_String n (Od, ())) fun y12 =>
  some y12.1)
def Ap (n : Nat) (x : List (List UInt8 × Bool × Unit)) : Option (List UInt8) :=
 let l_0 : List (List UInt8 × Bool × Unit) := x
 fix (Jd n) n ([], l_0, (l_0.length : Int), 0, [], ())
def wY (n : Nat) (x : List ((Bool × List (List (Int × List (Int) × Int × Int × Int × Int × Int × Unit) × Bool × Unit) × List (((Int × Int × Int × Unit) × (Int × Int × Int × Unit) × Bool × Unit) × Int × List UInt8 × List UInt8 × Int × Int × Int × List (List UInt8 × Int × Unit) × Bool × Bool × Unit) × Unit) × Bool × List (List UInt8) × Bool × Unit) × List UInt8 × List (List UInt8 × List UInt8 × Unit) × Bool × Int × Unit) : Option (List UInt8 × List (List UInt8 × List UInt8 × Unit) × List (Int) × Int × Int × Int × List UInt8 × List (List UInt8 × List UInt8 × Unit) × Bool × Int × Unit) :=
 let l_1 : List ((Bool × List (List (Int × List (Int) × Int × Int × Int × Int × Int × Unit) × Bool × Unit) × List (((Int × Int × Int × Unit) × (Int × Int × Int × Unit) × Bool × Unit) × Int × List UInt8 × List UInt8 × Int × Int × Int × List (List UInt8 × Int × Unit) × Bool × Bool × Unit) × Unit) × Bool × List (List UInt8) × Bool × Unit) := x.1
 let b2 : List UInt8 := x.2.1
 let b3 : List (List UInt8 × List UInt8 × Unit) := x.2.2.1
 let b4 : Bool := x.2.2.2.1
 let b5 : Int := x.2.2.2.2.1
 ob (rZ n (l_1, b2, b3, b4)) fun y6 =>
 br (y6.2 != 0) (
  some ([], [], [], 0, 0, y6.2, b2, b3, b4, b5, ())) (
  ob (sD n (y6.1, b5)) fun y7 =>
  ob (Ap n y7.1.2.2.2.2.2.2.2.1) fun y8 =>
  let v9 : Int := y7.1.2.2.2.2.2.2.2.2.2.2.1
  some (y8, y7.1.2.2.2.2.2.2.2.2.1, y7.1.2.2.2.2.2.2.2.2.2.1, v9, 0, y7.2, b2, b3, b4, b5, ()))
def rM (n : Nat) (x : List UInt8 × List (List UInt8 × List UInt8 × Unit) × List (Int) × Int × Int × Unit) : Option (Int) :=
 let x_0 : List UInt8 × List (List UInt8 × List UInt8 × Unit) × List (Int) × Int × Int × Unit := x
 br (decide ((x_0.2.2.1.length : Int) > 0)) (
  let v1 : Int := IntKind.wrap .i64 ((x_0.2.2.1.length : Int) - 1)
  chk (inB v1 x_0.2.2.1.length) (
   let v2 : Int := bS (Ty.dflt (.int .i64)) x_0.2.2.1 v1
   some v2)) (
  some 0)
def dY (n : Nat) (x : List UInt8 × List (List UInt8 × List UInt8 × Unit) × List UInt8 × List (List UInt8 × List UInt8 × Unit) × Bool × Int × Unit) : Option (List UInt8 × List (List UInt8 × List UInt8 × Unit) × List (Int) × Int × Int × Int × Int × List UInt8 × List (List UInt8 × List UInt8 × Unit) × Bool × Int × Unit) :=
 let Xd : List UInt8 := x.1
 let t_2 : List (List UInt8 × List UInt8 × Unit) := x.2.1
 let b3 : List UInt8 := x.2.2.1
 let b4 : List (List UInt8 × List UInt8 × Unit) := x.2.2.2.1
 let b5 : Bool := x.2.2.2.2.1
 let b6 : Int := x.2.2.2.2.2.1
 ob (jF n (Xd, t_2)) fun y7 =>
 br (y7.2.2 != 0) (
  some ([], [], [], 0, 0, y7.2.1, y7.2.2, b3, b4, b5, b6, ())) (
  ob (wY n (y7.1, b3, b4, b5, b6, ())) fun y8 =>
  br (y8.2.2.2.2.2.1 != 0) (
   some ([], [], [], 0, 0, 0, y8.2.2.2.2.2.1, y8.2.2.2.2.2.2.1, y8.2.2.2.2.2.2.2.1, y8.2.2.2.2.2.2.2.2.1, y8.2.2.2.2.2.2.2.2.2.1, ())) (
   ob (rM n (y8.1, (y8.2.1, (y8.2.2.1, (y8.2.2.2.1, (y8.2.2.2.2.1, ())))))) fun y9 =>
   some (y8.1, y8.2.1, y8.2.2.1, y9, y8.2.2.2.1, 0, 0, y8.2.2.2.2.2.2.1, y8.2.2.2.2.2.2.2.1, y8.2.2.2.2.2.2.2.2.1, y8.2.2.2.2.2.2.2.2.2.1, ())))
def rO (n : Nat) (x : List UInt8 × List UInt8 × List (List UInt8 × List UInt8 × Unit) × Bool × Int) : Option ((List UInt8 × List (List UInt8 × List UInt8 × Unit) × List (Int) × Int × Int × Unit) × Int × Int) :=
 let rP : List UInt8 := x.1
 let Aq : List UInt8 := x.2.1
 let t_2 : List (List UInt8 × List UInt8 × Unit) := x.2.2.1
 let zOs : Bool := x.2.2.2.1
 let zOt : Int := x.2.2.2.2
 ob (dY n (rP, t_2, Aq, t_2, zOs, zOt, ())) fun y1 =>
 some ((y1.1, (y1.2.1, (y1.2.2.1, (y1.2.2.2.1, (y1.2.2.2.2.1, ()))))), y1.2.2.2.2.2.1, y1.2.2.2.2.2.2.1)
def vK (n : Nat) (x : List ((Bool × List (List (Int × List (Int) × Int × Int × Int × Int × Int × Unit) × Bool × Unit) × List (((Int × Int × Int × Unit) × (Int × Int × Int × Unit) × Bool × Unit) × Int × List UInt8 × List UInt8 × Int × Int × Int × List (List UInt8 × Int × Unit) × Bool × Bool × Unit) × Unit) × Bool × List (List UInt8) × Bool × Unit) × List UInt8 × List (List UInt8 × List UInt8 × Unit) × Int × Unit) : Option (List UInt8 × List (List UInt8 × List UInt8 × Unit) × List (Int) × Int × Int × Int × List UInt8 × List (List UInt8 × List UInt8 × Unit) × Int × Unit) :=
 let l_1 : List ((Bool × List (List (Int × List (Int) × Int × Int × Int × Int × Int × Unit) × Bool × Unit) × List (((Int × Int × Int × Unit) × (Int × Int × Int × Unit) × Bool × Unit) × Int × List UInt8 × List UInt8 × Int × Int × Int × List (List UInt8 × Int × Unit) × Bool × Bool × Unit) × Unit) × Bool × List (List UInt8) × Bool × Unit) := x.1
 let b2 : List UInt8 := x.2.1
 let b3 : List (List UInt8 × List UInt8 × Unit) := x.2.2.1
 let b4 : Int := x.2.2.2.1
 ob (sF n (l_1, b2, b3, b4)) fun y5 =>
 some (y5.1.1, y5.1.2.1, y5.1.2.2.1, y5.1.2.2.2.1, y5.1.2.2.2.2.1, y5.2, b2, b3, b4, ())
def dS (n : Nat) (x : List UInt8 × List (List UInt8 × List UInt8 × Unit) × List UInt8 × List (List UInt8 × List UInt8 × Unit) × Int × Unit) : Option (List UInt8 × List (List UInt8 × List UInt8 × Unit) × List (Int) × Int × Int × Int × Int × List UInt8 × List (List UInt8 × List UInt8 × Unit) × Int × Unit) :=
 let Xd : List UInt8 := x.1
 let t_2 : List (List UInt8 × List UInt8 × Unit) := x.2.1
 let b3 : List UInt8 := x.2.2.1
 let b4 : List (List UInt8 × List UInt8 × Unit) := x.2.2.2.1
 let b5 : Int := x.2.2.2.2.1
 ob (jF n (Xd, t_2)) fun y6 =>
 br (y6.2.2 != 0) (
  some ([], [], [], 0, 0, y6.2.1, y6.2.2, b3, b4, b5, ())) (
  ob (vK n (y6.1, b3, b4, b5, ())) fun y7 =>
  br (y7.2.2.2.2.2.1 != 0) (
   some ([], [], [], 0, 0, 0, y7.2.2.2.2.2.1, y7.2.2.2.2.2.2.1, y7.2.2.2.2.2.2.2.1, y7.2.2.2.2.2.2.2.2.1, ())) (
   ob (rM n (y7.1, (y7.2.1, (y7.2.2.1, (y7.2.2.2.1, (y7.2.2.2.2.1, ())))))) fun y8 =>
   some (y7.1, y7.2.1, y7.2.2.1, y8, y7.2.2.2.1, 0, 0, y7.2.2.2.2.2.2.1, y7.2.2.2.2.2.2.2.1, y7.2.2.2.2.2.2.2.2.1, ())))
def oP (n : Nat) (x : List UInt8 × List UInt8 × List (List UInt8 × List UInt8 × Unit) × Int) : Option ((List UInt8 × List (List UInt8 × List UInt8 × Unit) × List (Int) × Int × Int × Unit) × Int × Int) :=
 let rP : List UInt8 := x.1
 let Aq : List UInt8 := x.2.1
 let t_2 : List (List UInt8 × List UInt8 × Unit) := x.2.2.1
 let zOu : Int := x.2.2.2
 ob (dS n (rP, t_2, Aq, t_2, zOu, ())) fun y1 =>
 some ((y1.1, (y1.2.1, (y1.2.2.1, (y1.2.2.2.1, (y1.2.2.2.2.1, ()))))), y1.2.2.2.2.2.1, y1.2.2.2.2.2.2.1)
def nI (n : Nat) (x : List UInt8 × List UInt8 × Bool) : Option (Bool) :=
 let rP : List UInt8 := x.1
 let Aq : List UInt8 := x.2.1
 let zOv : Bool := x.2.2
 br (decide ((rP.length : Int) > 200)) (
  ob (shown22 n ()) fun y1 =>
  some y1) (
  br (decide ((Aq.length : Int) > 200)) (
   ob (shown22 n ()) fun y2 =>
   some y2) (
   ob (shown22 n ()) fun y3 =>
   br (!y3) (
    ob (shown22 n ()) fun y4 =>
    some y4) (
    ob (jN n rP) fun y5 =>
    br (y5.2.2 == 0) (
     some true) (
     ob (rO n (rP, Aq, [([102], (Aq, ()))], zOv, 100)) fun y6 =>
     ob (oP n (rP, Aq, [([102], (Aq, ()))], 100)) fun y7 =>
     br (y6.2.2 == y5.2.2) (
      br (y7.2.2 == y5.2.2) (
       br (y6.2.1 == y5.2.1) (
        br (y7.2.1 == y5.2.1) (
         br (y6.1.1 == []) (
          br (y7.1.1 == []) (
           br ((y6.1.2.1.length : Int) == 0) (
            let v8 : Int := (y7.1.2.2.1.length : Int)
            some (v8 == 0)) (
            some false)) (
           some false)) (
          some false)) (
         some false)) (
        some false)) (
       some false)) (
      some false)))))
end Go.Dec
namespace Go.Dec
open Go.Proofs
set_option linter.unusedVariables false
def tab : Tab := [(3, ⟨.int .i64, 1, 8, [.val (.int .i64) 0], some (.int .i64), false⟩),
 (4, ⟨.bool, 1, 1, [.val .bool false], some .bool, false⟩),
 (5, ⟨.int .u8, 1, 1, [.val (.int .u8) 0], some (.int .u8), false⟩),
 (9, ⟨.str, 1, 16, [.val .str []], some .str, false⟩),
 (23, ⟨.slice 225, 1, 24, [.aK], some (.slice nH), false⟩),
 (24, ⟨.slice 50, 1, 24, [.aK], some (.slice eZ), false⟩),
 (26, ⟨.struct [(0, 4), (1, 23), (2, 24)], 3, 56, [.val .bool false, .aK, .aK], some Gq, false⟩),
 (27, ⟨.slice 9, 1, 24, [.aK], some (.slice .str), false⟩),
 (29, ⟨.struct [(0, 26), (3, 4), (4, 27), (5, 4)], 6, 96, [.val .bool false, .aK, .aK, .val .bool false, .aK, .val .bool false], some jE, false⟩),
 (30, ⟨.slice 90, 1, 24, [.aK], some (.slice lW), false⟩),
 (31, ⟨.slice 38, 1, 24, [.aK], some (.slice fC), false⟩),
 (34, ⟨.int .i64, 1, 8, [.val (.int .i64) 0], some (.int .i64), false⟩),
 (38, ⟨.struct [(0, 9), (1, 9)], 2, 32, [.val .str [], .val .str []], some fC, true⟩),
 (40, ⟨.slice 83, 1, 24, [.aK], some (.slice lW), false⟩),
 (45, ⟨.struct [(0, 3), (1, 3), (2, 3)], 3, 24, [.val (.int .i64) 0, .val (.int .i64) 0, .val (.int .i64) 0], some Mi, true⟩),
 (47, ⟨.struct [(0, 45), (3, 45), (6, 4)], 7, 56, [.val (.int .i64) 0, .val (.int .i64) 0, .val (.int .i64) 0, .val (.int .i64) 0, .val (.int .i64) 0, .val (.int .i64) 0, .val .bool false], some yH, true⟩),
 (48, ⟨.slice 312, 1, 24, [.aK], some (.slice zDa), false⟩),
 (50, ⟨.struct [(0, 47), (7, 5), (8, 9), (9, 9), (10, 3), (11, 3), (12, 3), (13, 48), (14, 4), (15, 4)], 16, 152, [.val (.int .i64) 0, .val (.int .i64) 0, .val (.int .i64) 0, .val (.int .i64) 0, .val (.int .i64) 0, .val (.int .i64) 0, .val .bool false, .val (.int .u8) 0, .val .str [], .val .str [], .val (.int .i64) 0, .val (.int .i64) 0, .val (.int .i64) 0, .aK, .val .bool false, .val .bool false], some eZ, false⟩),
 (56, ⟨.slice 27, 1, 24, [.aK], some (.slice (.slice .str)), false⟩),
 (59, ⟨.slice 3, 1, 24, [.aK], some (.slice (.int .i64)), false⟩),
 (61, ⟨.struct [(0, 9), (1, 31), (2, 59), (3, 3), (4, 3)], 5, 80, [.val .str [], .aK, .aK, .val (.int .i64) 0, .val (.int .i64) 0], some kD, false⟩),
 (65, ⟨.slice 4, 1, 24, [.aK], some (.slice .bool), false⟩),
 (75, ⟨.slice 173, 1, 24, [.aK], some (.slice zDb), false⟩),
 (76, ⟨.slice 217, 1, 24, [.aK], some (.slice lW), false⟩),
 (78, ⟨.struct [(0, 3), (1, 3), (2, 3), (3, 3), (4, 3), (5, 9), (6, 9), (7, 4), (8, 4), (9, 4), (10, 75), (11, 76)], 12, 128, [.val (.int .i64) 0, .val (.int .i64) 0, .val (.int .i64) 0, .val (.int .i64) 0, .val (.int .i64) 0, .val .str [], .val .str [], .val .bool false, .val .bool false, .val .bool false, .aK, .aK], some iR, false⟩),
 (83, ⟨.struct [(0, 9), (1, 4)], 2, 24, [.val .str [], .val .bool false], some lW, true⟩),
 (86, ⟨.ptr 89, 1, 8, [.gV], none, false⟩),
 (87, ⟨.slice 5, 1, 24, [.aK], some (.slice (.int .u8)), false⟩),
 (89, ⟨.struct [(0, 86), (1, 87)], 2, 32, [.gV, .aK], none, false⟩),
 (90, ⟨.struct [(0, 9), (1, 4)], 2, 24, [.val .str [], .val .bool false], some lW, true⟩),
 (92, ⟨.iface false, 1, 16, [.val .err false], some .err, false⟩),
 (109, ⟨.slice 29, 1, 24, [.aK], some (.slice jE), false⟩),
 (111, ⟨.struct [(0, 9), (1, 31), (2, 59), (3, 3), (4, 3)], 5, 80, [.val .str [], .aK, .aK, .val (.int .i64) 0, .val (.int .i64) 0], some kD, false⟩),
 (112, ⟨.slice 78, 1, 24, [.aK], some (.slice iR), false⟩),
 (113, ⟨.slice 40, 1, 24, [.aK], some (.slice (.slice lW)), false⟩),
 (114, ⟨.slice 148, 1, 24, [.aK], some (.slice Xb), false⟩),
 (116, ⟨.struct [(0, 109), (1, 65), (2, 4), (3, 112), (4, 65), (5, 113), (6, 114), (7, 30), (8, 31), (9, 59), (10, 3), (11, 3), (12, 3)], 13, 248, [.aK, .aK, .val .bool false, .aK, .aK, .aK, .aK, .aK, .aK, .aK, .val (.int .i64) 0, .val (.int .i64) 0, .val (.int .i64) 0], some Yh, false⟩),
 (120, ⟨.func, 1, 8, [.val .opq Value.nilFunc], some .opq, false⟩),
 (148, ⟨.struct [(0, 9), (1, 4), (2, 4)], 3, 24, [.val .str [], .val .bool false, .val .bool false], some Xb, true⟩),
 (170, ⟨.slice 230, 1, 24, [.aK], some (.slice vJ), false⟩),
 (173, ⟨.struct [(0, 4), (1, 3)], 2, 16, [.val .bool false, .val (.int .i64) 0], some zDb, true⟩),
 (217, ⟨.struct [(0, 9), (1, 4)], 2, 24, [.val .str [], .val .bool false], some lW, true⟩),
 (225, ⟨.struct [(0, 170), (1, 4)], 2, 32, [.aK, .val .bool false], some nH, false⟩),
 (226, ⟨.int .u64, 1, 8, [.val (.int .u64) 0], some (.int .u64), false⟩),
 (228, ⟨.arr 4 226, 4, 32, [.val (.arr 4 (.int .u64)) ([0, 0, 0, 0])], some (.arr 4 (.int .u64)), true⟩),
 (230, ⟨.struct [(0, 3), (1, 228), (5, 3), (6, 3), (7, 3), (8, 3), (9, 3)], 10, 80, [.val (.int .i64) 0, .val (.arr 4 (.int .u64)) ([0, 0, 0, 0]), .val (.int .i64) 0, .val (.int .i64) 0, .val (.int .i64) 0, .val (.int .i64) 0, .val (.int .i64) 0], some vJ, true⟩),
 (312, ⟨.struct [(0, 9), (1, 3)], 2, 24, [.val .str [], .val (.int .i64) 0], some zDa, true⟩)]
theorem lF : aR Tryz.prog tab := Gx (by kernel_rfl)
theorem mixed : Tryz.prog.follows .mixedOrders = true := by kernel_rfl
abbrev vL : List Ty := [.str, .slice fC]
abbrev oQ : List Ty := [.slice jE, .int .i64, .int .i64]
abbrev jO : Sh := ⟨2, [⟨0, false, [.ptr 0 0]⟩, ⟨1, false, [.v .str]⟩], [.box 89 [.bJ 0 0, .own 1], .row 5 (.int .u8)]⟩
abbrev fM : Sh := ⟨2, [⟨0, false, [.v (.int .i64)]⟩, ⟨1, false, [.v .err]⟩], [.box 89 [.bJ 0 0, .own 1], .row 5 (.int .u8)]⟩
abbrev Gr : List Ty := [.slice lW]
abbrev wZ : List Ty := [.str]
abbrev Eb : Sh := ⟨5, [⟨0, false, [.v (.slice jE)]⟩, ⟨1, false, [.ptr 0 0]⟩, ⟨2, false, [.ptr 1 0]⟩, ⟨3, false, [.ptr 2 0]⟩, ⟨4, false, [.ptr 3 0]⟩], [.box 9 [.v .str], .box 31 [.v (.slice fC)], .box 4 [.v .bool], .box 3 [.v (.int .i64)]]⟩
abbrev vM : Sh := ⟨2, [⟨0, true, [.v .str, .v (.slice fC), .v (.slice (.int .i64)), .v (.int .i64), .v (.int .i64)]⟩, ⟨1, false, [.v (.int .i64)]⟩], [.box 9 [.v .str], .box 31 [.v (.slice fC)], .box 4 [.v .bool], .box 3 [.v (.int .i64)]]⟩
abbrev Ar : List Ty := [kD]
abbrev tZ : List Ty := [.int .i64]
abbrev kE : Sh := ⟨3, [⟨0, false, [.v .str]⟩, ⟨1, false, [.v (.slice fC)]⟩, ⟨2, false, [.clo 41 [(0, 0), (1, 0), (2, 0), (3, 0)]]⟩], [.box 9 [.v .str], .box 31 [.v (.slice fC)], .box 4 [.v .bool], .box 3 [.v (.int .i64)]]⟩
abbrev gQ : Sh := ⟨3, [⟨0, true, [.v .str, .v (.slice fC), .v (.slice (.int .i64)), .v (.int .i64), .v (.int .i64)]⟩, ⟨1, false, [.v (.int .i64)]⟩, ⟨2, false, [.v (.int .i64)]⟩], [.box 9 [.v .str], .box 31 [.v (.slice fC)], .box 4 [.v .bool], .box 3 [.v (.int .i64)]]⟩
abbrev Mj : List Ty := [.str, .str, .slice fC, .bool, .int .i64]
abbrev Au : List Ty := [kD, .int .i64, .int .i64]
abbrev Bh : Sh := ⟨4, [⟨0, false, [.v (.slice jE)]⟩, ⟨1, false, [.ptr 0 0]⟩, ⟨2, false, [.ptr 1 0]⟩, ⟨3, false, [.ptr 2 0]⟩], [.box 9 [.v .str], .box 31 [.v (.slice fC)], .box 3 [.v (.int .i64)]]⟩
abbrev sG : Sh := ⟨2, [⟨0, true, [.v .str, .v (.slice fC), .v (.slice (.int .i64)), .v (.int .i64), .v (.int .i64)]⟩, ⟨1, false, [.v (.int .i64)]⟩], [.box 9 [.v .str], .box 31 [.v (.slice fC)], .box 3 [.v (.int .i64)]]⟩
abbrev jQ : Sh := ⟨3, [⟨0, false, [.v .str]⟩, ⟨1, false, [.v (.slice fC)]⟩, ⟨2, false, [.clo 44 [(0, 0), (1, 0), (2, 0)]]⟩], [.box 9 [.v .str], .box 31 [.v (.slice fC)], .box 3 [.v (.int .i64)]]⟩
abbrev gI : Sh := ⟨3, [⟨0, true, [.v .str, .v (.slice fC), .v (.slice (.int .i64)), .v (.int .i64), .v (.int .i64)]⟩, ⟨1, false, [.v (.int .i64)]⟩, ⟨2, false, [.v (.int .i64)]⟩], [.box 9 [.v .str], .box 31 [.v (.slice fC)], .box 3 [.v (.int .i64)]]⟩
abbrev Gs : List Ty := [.str, .str, .slice fC, .int .i64]
abbrev xA : List Ty := [kD, .int .i64, .int .i64]
abbrev Fv : List Ty := [.str, .str, .bool]
abbrev sI : List Ty := [.bool]
def Ri (n : Nat) : An (bU oQ) := (.mk .nil (.mk .nil (.mk .nil (.mk (.mk .nil (.mk (.loop ⟨34, [⟨1, false, [.v (.slice fC)]⟩, ⟨4, false, [.own 0]⟩, ⟨20, false, [.v (.slice (.slice .str))]⟩, ⟨21, false, [.v (.int .i64)]⟩, ⟨22, false, [.v (.int .i64)]⟩], [.row 29 jE]⟩ [.keep [false, true, false, false, true, false, false, false, false, false, false, false, false, false, false, false, false, false, false, false, true, true, true], .gcA 0, .Tt 4 109, .gcA 0] [.keep [false, true, false, false, true, false, false, false, false, false, false, false, false, false, false, false, false, false, false, false, true, true, true], .gcA 0, .gcA 0] n .nil) .nil []) []) .nil []) []) []) [])
theorem vN (n : Nat) : Pure Tryz.prog 60 vL oQ (jF n) :=
 nP (Γ := kV _ [(16, jC rY mV (jN n)), (109, jC vH vI (oO n))] []) (an := Ri n) Tryz.func60 rfl (by kernel_rfl) lF (fF (all_cons (dO (sH n)) (all_cons (dO (Ao n)) (all_nil))) (fG)) mixed (dH _ _ rfl) (fun x => by kernel_rfl)
def oU (n : Nat) : An (fM.X) := .nil
theorem mJ (n : Nat) : tJ Tryz.prog 28 jO fM (dM n) :=
 nA (Γ := kV _ [(55, peM zKx zKy (Bg n))] []) (an := oU n) (co := [.gc [0, 1]]) Tryz.func28 rfl (by kernel_rfl) lF (fF (all_cons (oD (zDf n)) (all_nil)) (fG)) mixed (dH _ _ rfl) (by kernel_rfl) (by kernel_rfl) (fun x => by kernel_rfl)
def Xe (n : Nat) : An (bU wZ) := (.mk .nil (.mk .nil (.mk .nil (.mk (.mk .nil (.mk (.loop ⟨23, [⟨3, false, [.ptr 0 0]⟩, ⟨4, false, [.v .str]⟩, ⟨7, false, [.v (.slice lW)]⟩, ⟨8, false, [.v (.int .i64)]⟩, ⟨9, false, [.v (.int .i64)]⟩], [.box 89 [.bJ 0 0, .own 1], .row 5 (.int .u8)]⟩ [.keep [false, false, false, true, true, false, false, true, true, true], .gcA 0, .ownB 0 1 87, .orn 0 0 0 0, .gcA 0] [.keep [false, false, false, true, true, false, false, true, true, true], .gcA 0, .gcA 0] n .nil) .nil []) []) .nil []) []) []) [])
theorem Mk (n : Nat) : Pure Tryz.prog 11 Gr wZ (Ap n) :=
 nP (Γ := kV _ [(28, peM jO fM (dM n)), (29, peM zIx zIy (Builder_String n))] []) (an := Xe n) Tryz.func11 rfl (by kernel_rfl) lF (fF (all_cons (oD (mJ n)) (all_cons (oD (zDe n)) (all_nil))) (fG)) mixed (dH _ _ rfl) (fun x => by kernel_rfl)
def Rj (n : Nat) : An (vM.X) := .nil
theorem Fz (n : Nat) : tJ Tryz.prog 41 Eb vM (wY n) :=
 nA (Γ := kV _ [(42, jC yB yC (rZ n)), (43, jC yD yE (sD n)), (11, jC Gr wZ (Ap n))] []) (an := Rj n) (co := [.gc [0, 1, 2, 3]]) Tryz.func41 rfl (by kernel_rfl) lF (fF (all_cons (dO (Dy n)) (all_cons (dO (Dz n)) (all_cons (dO (Mk n)) (all_nil)))) (fG)) mixed (dH _ _ rfl) (by kernel_rfl) (by kernel_rfl) (fun x => by kernel_rfl)
def Yi (n : Nat) : An (bU tZ) := .nil
theorem yI (n : Nat) : Pure Tryz.prog 61 Ar tZ (rM n) :=
 nP (Γ := kV _ [] []) (an := Yi n) Tryz.func61 rfl (by kernel_rfl) lF (fF (all_nil) (fG)) mixed (dH _ _ rfl) (fun x => by kernel_rfl)
def rQ (n : Nat) : An (gQ.X) := .nil
theorem nS (n : Nat) : tJ Tryz.prog 40 kE gQ (dY n) :=
 nA (Γ := kV _ [(60, jC vL oQ (jF n)), (41, peM Eb vM (wY n)), (61, jC Ar tZ (rM n))] []) (an := rQ n) (co := [.gc [0, 1, 2, 3]]) Tryz.func40 rfl (by kernel_rfl) lF (fF (all_cons (dO (vN n)) (all_cons (oD (Fz n)) (all_cons (dO (yI n)) (all_nil)))) (fG)) mixed (dH _ _ rfl) (by kernel_rfl) (by kernel_rfl) (fun x => by kernel_rfl)
def Yj (n : Nat) : An (bU Au) := .nil
theorem Og (n : Nat) : Pure Tryz.prog 17 Mj Au (rO n) :=
 nP (Γ := kV _ [(40, peM kE gQ (dY n))] []) (an := Yj n) Tryz.func17 rfl (by kernel_rfl) lF (fF (all_cons (oD (nS n)) (all_nil)) (fG)) mixed (dH _ _ rfl) (fun x => by kernel_rfl)
def Oh (n : Nat) : An (sG.X) := .nil
theorem Ec (n : Nat) : tJ Tryz.prog 44 Bh sG (vK n) :=
 nA (Γ := kV _ [(45, jC yF yG (sF n))] []) (an := Oh n) (co := [.gc [0, 1, 2]]) Tryz.func44 rfl (by kernel_rfl) lF (fF (all_cons (dO (Ea n)) (all_nil)) (fG)) mixed (dH _ _ rfl) (by kernel_rfl) (by kernel_rfl) (fun x => by kernel_rfl)
def qF (n : Nat) : An (gI.X) := .nil
theorem nJ (n : Nat) : tJ Tryz.prog 40 jQ gI (dS n) :=
 nA (Γ := kV _ [(60, jC vL oQ (jF n)), (44, peM Bh sG (vK n)), (61, jC Ar tZ (rM n))] []) (an := qF n) (co := [.gc [0, 1, 2]]) Tryz.func40 rfl (by kernel_rfl) lF (fF (all_cons (dO (vN n)) (all_cons (oD (Ec n)) (all_cons (dO (yI n)) (all_nil)))) (fG)) mixed (dH _ _ rfl) (by kernel_rfl) (by kernel_rfl) (fun x => by kernel_rfl)
def Xf (n : Nat) : An (bU xA) := .nil
theorem Ml (n : Nat) : Pure Tryz.prog 18 Gs xA (oP n) :=
 nP (Γ := kV _ [(40, peM jQ gI (dS n))] []) (an := Xf n) Tryz.func18 rfl (by kernel_rfl) lF (fF (all_cons (oD (nJ n)) (all_nil)) (fG)) mixed (dH _ _ rfl) (fun x => by kernel_rfl)
def Ed (n : Nat) : An (bU sI) := .nil
theorem xC (n : Nat) : Pure Tryz.prog 7 Fv sI (nI n) :=
 nP (Γ := kV _ [(15, jC Wy Wz (shown22 n)), (16, jC rY mV (jN n)), (17, jC Mj Au (rO n)), (18, jC Gs xA (oP n))] []) (an := Ed n) Tryz.func7 rfl (by kernel_rfl) lF (fF (all_cons (dO (Xa n)) (all_cons (dO (sH n)) (all_cons (dO (Og n)) (all_cons (dO (Ml n)) (all_nil))))) (fG)) mixed (dH _ _ rfl) (fun x => by kernel_rfl)
end Go.Dec
