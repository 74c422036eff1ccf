/- Part of a proof over this seat: a library of my own, and what it says of this seat. No statement is proved here. -/
import Derived.Test.YtmpoakdpdflfgaaGreatDoorPartBJ
import Derived.Test.YtmpoakdpdflfgaaGreatDoorPartBN
import Derived.Test.YtmpoakdpdflfgaaGreatDoorPartAJ
import Derived.Test.YtmpoakdpdflfgaaGreatDoorPartBM
import Derived.Test.YtmpoakdpdflfgaaGreatDoorProg
import Derived.KernelRfl
namespace Go.Dec
def oZ (_n : Nat) (_x : (List (List UInt8)) × (List (List UInt8 × List UInt8 × Unit))) : Option (((Bool × List (List (Int × List (Int) × Int × Int × Int × Int × Int × Unit) × Bool × Unit) × List (((Int × Int × Int × Unit) × (Int × Int × Int × Unit) × Bool × Unit) × Int × List UInt8 × List UInt8 × Int × Int × Int × List (List UInt8 × Int × Unit) × Bool × Bool × Unit) × Unit) × Bool × List (List UInt8) × Bool × Unit)) := none
def sM (_n : Nat) (_x : (List ((Bool × List (List (Int × List (Int) × Int × Int × Int × Int × Int × Unit) × Bool × Unit) × List (((Int × Int × Int × Unit) × (Int × Int × Int × Unit) × Bool × Unit) × Int × List UInt8 × List UInt8 × Int × Int × Int × List (List UInt8 × Int × Unit) × Bool × Bool × Unit) × Unit) × Bool × List (List UInt8) × Bool × Unit)) × (List UInt8) × (List (List UInt8 × List UInt8 × Unit)) × (Bool)) : Option ((List ((Bool × List (List (Int × List (Int) × Int × Int × Int × Int × Int × Unit) × Bool × Unit) × List (((Int × Int × Int × Unit) × (Int × Int × Int × Unit) × Bool × Unit) × Int × List UInt8 × List UInt8 × Int × Int × Int × List (List UInt8 × Int × Unit) × Bool × Bool × Unit) × Unit) × Bool × List (List UInt8) × Bool × Unit) × List (Bool) × Bool × List (Int × Int × Int × Int × Int × List UInt8 × List UInt8 × Bool × Bool × Bool × List (Bool × Int × Unit) × List (List UInt8 × Bool × Unit) × Unit) × List (Bool) × List (List (List UInt8 × Bool × Unit)) × List (List UInt8 × Bool × Bool × Unit) × List (List UInt8 × Bool × Unit) × List (List UInt8 × List UInt8 × Unit) × List (Int) × Int × Int × Int × Unit) × (Int)) := none
def sN (_n : Nat) (_x : (List ((Bool × List (List (Int × List (Int) × Int × Int × Int × Int × Int × Unit) × Bool × Unit) × List (((Int × Int × Int × Unit) × (Int × Int × Int × Unit) × Bool × Unit) × Int × List UInt8 × List UInt8 × Int × Int × Int × List (List UInt8 × Int × Unit) × Bool × Bool × Unit) × Unit) × Bool × List (List UInt8) × Bool × Unit) × List (Bool) × Bool × List (Int × Int × Int × Int × Int × List UInt8 × List UInt8 × Bool × Bool × Bool × List (Bool × Int × Unit) × List (List UInt8 × Bool × Unit) × Unit) × List (Bool) × List (List (List UInt8 × Bool × Unit)) × List (List UInt8 × Bool × Bool × Unit) × List (List UInt8 × Bool × Unit) × List (List UInt8 × List UInt8 × Unit) × List (Int) × Int × Int × Int × Unit) × (Int)) : Option ((List ((Bool × List (List (Int × List (Int) × Int × Int × Int × Int × Int × Unit) × Bool × Unit) × List (((Int × Int × Int × Unit) × (Int × Int × Int × Unit) × Bool × Unit) × Int × List UInt8 × List UInt8 × Int × Int × Int × List (List UInt8 × Int × Unit) × Bool × Bool × Unit) × Unit) × Bool × List (List UInt8) × Bool × Unit) × List (Bool) × Bool × List (Int × Int × Int × Int × Int × List UInt8 × List UInt8 × Bool × Bool × Bool × List (Bool × Int × Unit) × List (List UInt8 × Bool × Unit) × Unit) × List (Bool) × List (List (List UInt8 × Bool × Unit)) × List (List UInt8 × Bool × Bool × Unit) × List (List UInt8 × Bool × Unit) × List (List UInt8 × List UInt8 × Unit) × List (Int) × Int × Int × Int × Unit) × (Int)) := none
def sO (_n : Nat) (_x : (List ((Bool × List (List (Int × List (Int) × Int × Int × Int × Int × Int × Unit) × Bool × Unit) × List (((Int × Int × Int × Unit) × (Int × Int × Int × Unit) × Bool × Unit) × Int × List UInt8 × List UInt8 × Int × Int × Int × List (List UInt8 × Int × Unit) × Bool × Bool × Unit) × Unit) × Bool × List (List UInt8) × Bool × Unit)) × (List UInt8) × (List (List UInt8 × List UInt8 × Unit)) × (Int)) : Option ((List UInt8 × List (List UInt8 × List UInt8 × Unit) × List (Int) × Int × Int × Unit) × (Int)) := none
end Go.Dec
namespace Go.Dec
open Go.Proofs
theorem wT {P : Program} {f : FuncId} {ts rs : List Ty} {F : bV ts -> Option (bV rs)} (h : fF P f = true) (hF : ∀ x, F x = none) : Pure P f ts rs F := ⟨h, fun x y e => by rw [hF] at e; cases e⟩
abbrev vO : List Ty := [(.slice .str), (.slice (.pair .str (.pair .str .unit)))]
abbrev vP : List Ty := [(.pair (.pair .bool (.pair (.slice (.pair (.slice (.pair (.int .i64) (.pair (.arr 4 (.int .u64)) (.pair (.int .i64) (.pair (.int .i64) (.pair (.int .i64) (.pair (.int .i64) (.pair (.int .i64) .unit)))))))) (.pair .bool .unit))) (.pair (.slice (.pair (.pair (.pair (.int .i64) (.pair (.int .i64) (.pair (.int .i64) .unit))) (.pair (.pair (.int .i64) (.pair (.int .i64) (.pair (.int .i64) .unit))) (.pair .bool .unit))) (.pair (.int .u8) (.pair .str (.pair .str (.pair (.int .i64) (.pair (.int .i64) (.pair (.int .i64) (.pair (.slice (.pair .str (.pair (.int .i64) .unit))) (.pair .bool (.pair .bool .unit))))))))))) .unit))) (.pair .bool (.pair (.slice .str) (.pair .bool .unit))))]
theorem Aw (n : Nat) : Pure Tryz.prog 109 vO vP (oZ n) := wT (by kernel_rfl) (fun _ => rfl)
abbrev yH : List Ty := [(.slice (.pair (.pair .bool (.pair (.slice (.pair (.slice (.pair (.int .i64) (.pair (.arr 4 (.int .u64)) (.pair (.int .i64) (.pair (.int .i64) (.pair (.int .i64) (.pair (.int .i64) (.pair (.int .i64) .unit)))))))) (.pair .bool .unit))) (.pair (.slice (.pair (.pair (.pair (.int .i64) (.pair (.int .i64) (.pair (.int .i64) .unit))) (.pair (.pair (.int .i64) (.pair (.int .i64) (.pair (.int .i64) .unit))) (.pair .bool .unit))) (.pair (.int .u8) (.pair .str (.pair .str (.pair (.int .i64) (.pair (.int .i64) (.pair (.int .i64) (.pair (.slice (.pair .str (.pair (.int .i64) .unit))) (.pair .bool (.pair .bool .unit))))))))))) .unit))) (.pair .bool (.pair (.slice .str) (.pair .bool .unit))))), .str, (.slice (.pair .str (.pair .str .unit))), .bool]
abbrev yI : List Ty := [(.pair (.slice (.pair (.pair .bool (.pair (.slice (.pair (.slice (.pair (.int .i64) (.pair (.arr 4 (.int .u64)) (.pair (.int .i64) (.pair (.int .i64) (.pair (.int .i64) (.pair (.int .i64) (.pair (.int .i64) .unit)))))))) (.pair .bool .unit))) (.pair (.slice (.pair (.pair (.pair (.int .i64) (.pair (.int .i64) (.pair (.int .i64) .unit))) (.pair (.pair (.int .i64) (.pair (.int .i64) (.pair (.int .i64) .unit))) (.pair .bool .unit))) (.pair (.int .u8) (.pair .str (.pair .str (.pair (.int .i64) (.pair (.int .i64) (.pair (.int .i64) (.pair (.slice (.pair .str (.pair (.int .i64) .unit))) (.pair .bool (.pair .bool .unit))))))))))) .unit))) (.pair .bool (.pair (.slice .str) (.pair .bool .unit))))) (.pair (.slice .bool) (.pair .bool (.pair (.slice (.pair (.int .i64) (.pair (.int .i64) (.pair (.int .i64) (.pair (.int .i64) (.pair (.int .i64) (.pair .str (.pair .str (.pair .bool (.pair .bool (.pair .bool (.pair (.slice (.pair .bool (.pair (.int .i64) .unit))) (.pair (.slice (.pair .str (.pair .bool .unit))) .unit))))))))))))) (.pair (.slice .bool) (.pair (.slice (.slice (.pair .str (.pair .bool .unit)))) (.pair (.slice (.pair .str (.pair .bool (.pair .bool .unit)))) (.pair (.slice (.pair .str (.pair .bool .unit))) (.pair (.slice (.pair .str (.pair .str .unit))) (.pair (.slice (.int .i64)) (.pair (.int .i64) (.pair (.int .i64) (.pair (.int .i64) .unit))))))))))))), (.int .i64)]
theorem Ee (n : Nat) : Pure Tryz.prog 42 yH yI (sM n) := wT (by kernel_rfl) (fun _ => rfl)
abbrev yJ : List Ty := [(.pair (.slice (.pair (.pair .bool (.pair (.slice (.pair (.slice (.pair (.int .i64) (.pair (.arr 4 (.int .u64)) (.pair (.int .i64) (.pair (.int .i64) (.pair (.int .i64) (.pair (.int .i64) (.pair (.int .i64) .unit)))))))) (.pair .bool .unit))) (.pair (.slice (.pair (.pair (.pair (.int .i64) (.pair (.int .i64) (.pair (.int .i64) .unit))) (.pair (.pair (.int .i64) (.pair (.int .i64) (.pair (.int .i64) .unit))) (.pair .bool .unit))) (.pair (.int .u8) (.pair .str (.pair .str (.pair (.int .i64) (.pair (.int .i64) (.pair (.int .i64) (.pair (.slice (.pair .str (.pair (.int .i64) .unit))) (.pair .bool (.pair .bool .unit))))))))))) .unit))) (.pair .bool (.pair (.slice .str) (.pair .bool .unit))))) (.pair (.slice .bool) (.pair .bool (.pair (.slice (.pair (.int .i64) (.pair (.int .i64) (.pair (.int .i64) (.pair (.int .i64) (.pair (.int .i64) (.pair .str (.pair .str (.pair .bool (.pair .bool (.pair .bool (.pair (.slice (.pair .bool (.pair (.int .i64) .unit))) (.pair (.slice (.pair .str (.pair .bool .unit))) .unit))))))))))))) (.pair (.slice .bool) (.pair (.slice (.slice (.pair .str (.pair .bool .unit)))) (.pair (.slice (.pair .str (.pair .bool (.pair .bool .unit)))) (.pair (.slice (.pair .str (.pair .bool .unit))) (.pair (.slice (.pair .str (.pair .str .unit))) (.pair (.slice (.int .i64)) (.pair (.int .i64) (.pair (.int .i64) (.pair (.int .i64) .unit))))))))))))), (.int .i64)]
abbrev yK : List Ty := [(.pair (.slice (.pair (.pair .bool (.pair (.slice (.pair (.slice (.pair (.int .i64) (.pair (.arr 4 (.int .u64)) (.pair (.int .i64) (.pair (.int .i64) (.pair (.int .i64) (.pair (.int .i64) (.pair (.int .i64) .unit)))))))) (.pair .bool .unit))) (.pair (.slice (.pair (.pair (.pair (.int .i64) (.pair (.int .i64) (.pair (.int .i64) .unit))) (.pair (.pair (.int .i64) (.pair (.int .i64) (.pair (.int .i64) .unit))) (.pair .bool .unit))) (.pair (.int .u8) (.pair .str (.pair .str (.pair (.int .i64) (.pair (.int .i64) (.pair (.int .i64) (.pair (.slice (.pair .str (.pair (.int .i64) .unit))) (.pair .bool (.pair .bool .unit))))))))))) .unit))) (.pair .bool (.pair (.slice .str) (.pair .bool .unit))))) (.pair (.slice .bool) (.pair .bool (.pair (.slice (.pair (.int .i64) (.pair (.int .i64) (.pair (.int .i64) (.pair (.int .i64) (.pair (.int .i64) (.pair .str (.pair .str (.pair .bool (.pair .bool (.pair .bool (.pair (.slice (.pair .bool (.pair (.int .i64) .unit))) (.pair (.slice (.pair .str (.pair .bool .unit))) .unit))))))))))))) (.pair (.slice .bool) (.pair (.slice (.slice (.pair .str (.pair .bool .unit)))) (.pair (.slice (.pair .str (.pair .bool (.pair .bool .unit)))) (.pair (.slice (.pair .str (.pair .bool .unit))) (.pair (.slice (.pair .str (.pair .str .unit))) (.pair (.slice (.int .i64)) (.pair (.int .i64) (.pair (.int .i64) (.pair (.int .i64) .unit))))))))))))), (.int .i64)]
theorem Ef (n : Nat) : Pure Tryz.prog 43 yJ yK (sN n) := wT (by kernel_rfl) (fun _ => rfl)
abbrev yL : List Ty := [(.slice (.pair (.pair .bool (.pair (.slice (.pair (.slice (.pair (.int .i64) (.pair (.arr 4 (.int .u64)) (.pair (.int .i64) (.pair (.int .i64) (.pair (.int .i64) (.pair (.int .i64) (.pair (.int .i64) .unit)))))))) (.pair .bool .unit))) (.pair (.slice (.pair (.pair (.pair (.int .i64) (.pair (.int .i64) (.pair (.int .i64) .unit))) (.pair (.pair (.int .i64) (.pair (.int .i64) (.pair (.int .i64) .unit))) (.pair .bool .unit))) (.pair (.int .u8) (.pair .str (.pair .str (.pair (.int .i64) (.pair (.int .i64) (.pair (.int .i64) (.pair (.slice (.pair .str (.pair (.int .i64) .unit))) (.pair .bool (.pair .bool .unit))))))))))) .unit))) (.pair .bool (.pair (.slice .str) (.pair .bool .unit))))), .str, (.slice (.pair .str (.pair .str .unit))), (.int .i64)]
abbrev yM : List Ty := [(.pair .str (.pair (.slice (.pair .str (.pair .str .unit))) (.pair (.slice (.int .i64)) (.pair (.int .i64) (.pair (.int .i64) .unit))))), (.int .i64)]
theorem Eh (n : Nat) : Pure Tryz.prog 45 yL yM (sO n) := wT (by kernel_rfl) (fun _ => rfl)
end Go.Dec
namespace Go.Dec
set_option linter.unusedVariables false
abbrev vQ : Ty := .pair (.int .i64) (.pair (.arr 4 (.int .u64)) (.pair (.int .i64) (.pair (.int .i64) (.pair (.int .i64) (.pair (.int .i64) (.pair (.int .i64) .unit))))))
abbrev nJ : Ty := .pair (.slice vQ) (.pair .bool .unit)
abbrev Mv : Ty := .pair (.int .i64) (.pair (.int .i64) (.pair (.int .i64) .unit))
abbrev yN : Ty := .pair Mv (.pair Mv (.pair .bool .unit))
abbrev zDm : Ty := .pair .str (.pair (.int .i64) .unit)
abbrev fA : Ty := .pair yN (.pair (.int .u8) (.pair .str (.pair .str (.pair (.int .i64) (.pair (.int .i64) (.pair (.int .i64) (.pair (.slice zDm) (.pair .bool (.pair .bool .unit)))))))))
abbrev Gx : Ty := .pair .bool (.pair (.slice nJ) (.pair (.slice fA) .unit))
abbrev jE : Ty := .pair Gx (.pair .bool (.pair (.slice .str) (.pair .bool .unit)))
abbrev lY : Ty := .pair .str (.pair .bool .unit)
abbrev fD : Ty := .pair .str (.pair .str .unit)
abbrev kF : Ty := .pair .str (.pair (.slice fD) (.pair (.slice (.int .i64)) (.pair (.int .i64) (.pair (.int .i64) .unit))))
abbrev zDn : Ty := .pair .bool (.pair (.int .i64) .unit)
abbrev iR : Ty := .pair (.int .i64) (.pair (.int .i64) (.pair (.int .i64) (.pair (.int .i64) (.pair (.int .i64) (.pair .str (.pair .str (.pair .bool (.pair .bool (.pair .bool (.pair (.slice zDn) (.pair (.slice lY) .unit)))))))))))
abbrev Xm : Ty := .pair .str (.pair .bool (.pair .bool .unit))
abbrev Yu : Ty := .pair (.slice jE) (.pair (.slice .bool) (.pair .bool (.pair (.slice iR) (.pair (.slice .bool) (.pair (.slice (.slice lY)) (.pair (.slice Xm) (.pair (.slice lY) (.pair (.slice fD) (.pair (.slice (.int .i64)) Mv)))))))))
def Gd (n : Nat) (g0 : List (List UInt8 × List UInt8 × Unit) × List (List (List UInt8)) × Int × Int × List ((Bool × List (List (Int × List (Int) × Int × Int × Int × Int × Int × Unit) × Bool × Unit) × List (((Int × Int × Int × Unit) × (Int × Int × Int × Unit) × Bool × Unit) × Int × List UInt8 × List UInt8 × Int × Int × Int × List (List UInt8 × Int × Unit) × Bool × Bool × Unit) × Unit) × Bool × List (List UInt8) × Bool × Unit) × Unit -> Option (List ((Bool × List (List (Int × List (Int) × Int × Int × Int × Int × Int × Unit) × Bool × Unit) × List (((Int × Int × Int × Unit) × (Int × Int × Int × Unit) × Bool × Unit) × Int × List UInt8 × List UInt8 × Int × Int × Int × List (List UInt8 × Int × Unit) × Bool × Bool × Unit) × Unit) × Bool × List (List UInt8) × Bool × Unit) × Int × Int)) (x2 : List (List UInt8 × List UInt8 × Unit) × List (List (List UInt8)) × Int × Int × List ((Bool × List (List (Int × List (Int) × Int × Int × Int × Int × Int × Unit) × Bool × Unit) × List (((Int × Int × Int × Unit) × (Int × Int × Int × Unit) × Bool × Unit) × Int × List UInt8 × List UInt8 × Int × Int × Int × List (List UInt8 × Int × Unit) × Bool × Bool × Unit) × Unit) × Bool × List (List UInt8) × Bool × Unit) × Unit) : Option (List ((Bool × List (List (Int × List (Int) × Int × Int × Int × Int × Int × Unit) × Bool × Unit) × List (((Int × Int × Int × Unit) × (Int × Int × Int × Unit) × Bool × Unit) × Int × List UInt8 × List UInt8 × Int × Int × Int × List (List UInt8 × Int × Unit) × Bool × Bool × Unit) × Unit) × Bool × List (List UInt8) × Bool × Unit) × Int × Int) :=
 let t_3 : List (List UInt8 × List UInt8 × Unit) := x2.1
 let zDo : List (List (List UInt8)) := x2.2.1
 let zJh : Int := x2.2.2.1
 let Tg : Int := x2.2.2.2.1
 let Eb : List ((Bool × List (List (Int × List (Int) × Int × Int × Int × Int × Int × Unit) × Bool × Unit) × List (((Int × Int × Int × Unit) × (Int × Int × Int × Unit) × Bool × Unit) × Int × List UInt8 × List UInt8 × Int × Int × Int × List (List UInt8 × Int × Unit) × Bool × Bool × Unit) × Unit) × Bool × List (List UInt8) × Bool × Unit) := x2.2.2.2.2.1
 br (decide (Tg < zJh)) (
  chk (inB Tg zDo.length) (
   let v8 : List (List UInt8) := bT (Ty.dflt (.slice .str)) zDo Tg
   ob (oZ n (v8, t_3)) fun y9 =>
   chk (Nat.ble ((Eb.length + ([y9] : List ((Bool × List (List (Int × List (Int) × Int × Int × Int × Int × Int × Unit) × Bool × Unit) × List (((Int × Int × Int × Unit) × (Int × Int × Int × Unit) × Bool × Unit) × Int × List UInt8 × List UInt8 × Int × Int × Int × List (List UInt8 × Int × Unit) × Bool × Bool × Unit) × Unit) × Bool × List (List UInt8) × Bool × Unit)).length) * 96) room) (
    let v10 : Int := IntKind.wrap .i64 (Tg + 1)
    g0 (t_3, zDo, zJh, v10, Eb ++ [y9], ())))) (
  some (Eb, 0, 0))
def jF (n : Nat) (x : List UInt8 × List (List UInt8 × List UInt8 × Unit)) : Option (List ((Bool × List (List (Int × List (Int) × Int × Int × Int × Int × Int × Unit) × Bool × Unit) × List (((Int × Int × Int × Unit) × (Int × Int × Int × Unit) × Bool × Unit) × Int × List UInt8 × List UInt8 × Int × Int × Int × List (List UInt8 × Int × Unit) × Bool × Bool × Unit) × Unit) × Bool × List (List UInt8) × Bool × Unit) × Int × Int) :=
 let s_0 : List UInt8 := x.1
 let t_1 : List (List UInt8 × List UInt8 × Unit) := x.2
 ob (jN n s_0) fun y1 =>
 br (y1.2.2 != 0) (
  some ([], y1.2.1, y1.2.2)) (
  fix (Gd n) n (t_1, y1.1, (y1.1.length : Int), 0, [], ()))
def dO (n : Nat) (x : List UInt8 × List (Int) × Unit) : Option (Int × Bool × List (Int) × Unit) :=
 let s_1 : List UInt8 := x.1
 let Xf : List (Int) := x.2.1
 ob (sI n (Xf, ())) fun y3 =>
 chk (Nat.ble ((y3.1.length + s_1.length) * 1) room) (
  some ((s_1.length : Int), false, y3.1 ++ aX s_1, ()))
def Jk (n : Nat) (g0 : List UInt8 × List (List UInt8 × Bool × Unit) × Int × Int × List (Int) × Unit -> Option (List UInt8)) (x1 : List UInt8 × List (List UInt8 × Bool × Unit) × Int × Int × List (Int) × Unit) : Option (List UInt8) :=
 let zJi : List UInt8 := x1.1
 let zDp : List (List UInt8 × Bool × Unit) := x1.2.1
 let zIm : Int := x1.2.2.1
 let Xn : Int := x1.2.2.2.1
 let Ot : List (Int) := x1.2.2.2.2.1
 br (decide (Xn < zIm)) (
  chk (inB Xn zDp.length) (
   let v7 : List UInt8 × Bool × Unit := bT (Ty.dflt lY) zDp Xn
   chk (decide (zJi.length + v7.1.length <= Tj)) (
    ob (dO n (zJi ++ v7.1, Ot, ())) fun y8 =>
    br v7.2.1 (
     ob (dO n ([10], y8.2.2.1, ())) fun y9 =>
     let v10 : Int := IntKind.wrap .i64 (Xn + 1)
     g0 ([], zDp, zIm, v10, y9.2.2.1, ())) (
     let v11 : Int := IntKind.wrap .i64 (Xn + 1)
     g0 ([10], zDp, zIm, v11, y8.2.2.1, ()))))) (
  ob (Builder_String n (Ot, ())) fun y12 =>
  some y12.1)
def Ay (n : Nat) (x : List (List UInt8 × Bool × Unit)) : Option (List UInt8) :=
 let l_0 : List (List UInt8 × Bool × Unit) := x
 fix (Jk n) n ([], l_0, (l_0.length : Int), 0, [], ())
def xG (n : Nat) (x : List ((Bool × List (List (Int × List (Int) × Int × Int × Int × Int × Int × Unit) × Bool × Unit) × List (((Int × Int × Int × Unit) × (Int × Int × Int × Unit) × Bool × Unit) × Int × List UInt8 × List UInt8 × Int × Int × Int × List (List UInt8 × Int × Unit) × Bool × Bool × Unit) × Unit) × Bool × List (List UInt8) × Bool × Unit) × List UInt8 × List (List UInt8 × List UInt8 × Unit) × Bool × Int × Unit) : Option (List UInt8 × List (List UInt8 × List UInt8 × Unit) × List (Int) × Int × Int × Int × List UInt8 × List (List UInt8 × List UInt8 × Unit) × Bool × Int × Unit) :=
 let l_1 : List ((Bool × List (List (Int × List (Int) × Int × Int × Int × Int × Int × Unit) × Bool × Unit) × List (((Int × Int × Int × Unit) × (Int × Int × Int × Unit) × Bool × Unit) × Int × List UInt8 × List UInt8 × Int × Int × Int × List (List UInt8 × Int × Unit) × Bool × Bool × Unit) × Unit) × Bool × List (List UInt8) × Bool × Unit) := x.1
 let b2 : List UInt8 := x.2.1
 let b3 : List (List UInt8 × List UInt8 × Unit) := x.2.2.1
 let b4 : Bool := x.2.2.2.1
 let b5 : Int := x.2.2.2.2.1
 ob (sM n (l_1, b2, b3, b4)) fun y6 =>
 br (y6.2 != 0) (
  some ([], [], [], 0, 0, y6.2, b2, b3, b4, b5, ())) (
  ob (sN n (y6.1, b5)) fun y7 =>
  ob (Ay n y7.1.2.2.2.2.2.2.2.1) fun y8 =>
  let v9 : Int := y7.1.2.2.2.2.2.2.2.2.2.2.1
  some (y8, y7.1.2.2.2.2.2.2.2.2.1, y7.1.2.2.2.2.2.2.2.2.2.1, v9, 0, y7.2, b2, b3, b4, b5, ()))
def rV (n : Nat) (x : List UInt8 × List (List UInt8 × List UInt8 × Unit) × List (Int) × Int × Int × Unit) : Option (Int) :=
 let x_0 : List UInt8 × List (List UInt8 × List UInt8 × Unit) × List (Int) × Int × Int × Unit := x
 br (decide ((x_0.2.2.1.length : Int) > 0)) (
  let v1 : Int := IntKind.wrap .i64 ((x_0.2.2.1.length : Int) - 1)
  chk (inB v1 x_0.2.2.1.length) (
   let v2 : Int := bT (Ty.dflt (.int .i64)) x_0.2.2.1 v1
   some v2)) (
  some 0)
def dZ (n : Nat) (x : List UInt8 × List (List UInt8 × List UInt8 × Unit) × List UInt8 × List (List UInt8 × List UInt8 × Unit) × Bool × Int × Unit) : Option (List UInt8 × List (List UInt8 × List UInt8 × Unit) × List (Int) × Int × Int × Int × Int × List UInt8 × List (List UInt8 × List UInt8 × Unit) × Bool × Int × Unit) :=
 let Xo : List UInt8 := x.1
 let t_2 : List (List UInt8 × List UInt8 × Unit) := x.2.1
 let b3 : List UInt8 := x.2.2.1
 let b4 : List (List UInt8 × List UInt8 × Unit) := x.2.2.2.1
 let b5 : Bool := x.2.2.2.2.1
 let b6 : Int := x.2.2.2.2.2.1
 ob (jF n (Xo, t_2)) fun y7 =>
 br (y7.2.2 != 0) (
  some ([], [], [], 0, 0, y7.2.1, y7.2.2, b3, b4, b5, b6, ())) (
  ob (xG n (y7.1, b3, b4, b5, b6, ())) fun y8 =>
  br (y8.2.2.2.2.2.1 != 0) (
   some ([], [], [], 0, 0, 0, y8.2.2.2.2.2.1, y8.2.2.2.2.2.2.1, y8.2.2.2.2.2.2.2.1, y8.2.2.2.2.2.2.2.2.1, y8.2.2.2.2.2.2.2.2.2.1, ())) (
   ob (rV n (y8.1, (y8.2.1, (y8.2.2.1, (y8.2.2.2.1, (y8.2.2.2.2.1, ())))))) fun y9 =>
   some (y8.1, y8.2.1, y8.2.2.1, y9, y8.2.2.2.1, 0, 0, y8.2.2.2.2.2.2.1, y8.2.2.2.2.2.2.2.1, y8.2.2.2.2.2.2.2.2.1, y8.2.2.2.2.2.2.2.2.2.1, ())))
def rW (n : Nat) (x : List UInt8 × List UInt8 × List (List UInt8 × List UInt8 × Unit) × Bool × Int) : Option ((List UInt8 × List (List UInt8 × List UInt8 × Unit) × List (Int) × Int × Int × Unit) × Int × Int) :=
 let rX : List UInt8 := x.1
 let Az : List UInt8 := x.2.1
 let t_2 : List (List UInt8 × List UInt8 × Unit) := x.2.2.1
 let zPa : Bool := x.2.2.2.1
 let zPb : Int := x.2.2.2.2
 ob (dZ n (rX, t_2, Az, t_2, zPa, zPb, ())) fun y1 =>
 some ((y1.1, (y1.2.1, (y1.2.2.1, (y1.2.2.2.1, (y1.2.2.2.2.1, ()))))), y1.2.2.2.2.2.1, y1.2.2.2.2.2.2.1)
def vR (n : Nat) (x : List ((Bool × List (List (Int × List (Int) × Int × Int × Int × Int × Int × Unit) × Bool × Unit) × List (((Int × Int × Int × Unit) × (Int × Int × Int × Unit) × Bool × Unit) × Int × List UInt8 × List UInt8 × Int × Int × Int × List (List UInt8 × Int × Unit) × Bool × Bool × Unit) × Unit) × Bool × List (List UInt8) × Bool × Unit) × List UInt8 × List (List UInt8 × List UInt8 × Unit) × Int × Unit) : Option (List UInt8 × List (List UInt8 × List UInt8 × Unit) × List (Int) × Int × Int × Int × List UInt8 × List (List UInt8 × List UInt8 × Unit) × Int × Unit) :=
 let l_1 : List ((Bool × List (List (Int × List (Int) × Int × Int × Int × Int × Int × Unit) × Bool × Unit) × List (((Int × Int × Int × Unit) × (Int × Int × Int × Unit) × Bool × Unit) × Int × List UInt8 × List UInt8 × Int × Int × Int × List (List UInt8 × Int × Unit) × Bool × Bool × Unit) × Unit) × Bool × List (List UInt8) × Bool × Unit) := x.1
 let b2 : List UInt8 := x.2.1
 let b3 : List (List UInt8 × List UInt8 × Unit) := x.2.2.1
 let b4 : Int := x.2.2.2.1
 ob (sO n (l_1, b2, b3, b4)) fun y5 =>
 some (y5.1.1, y5.1.2.1, y5.1.2.2.1, y5.1.2.2.2.1, y5.1.2.2.2.2.1, y5.2, b2, b3, b4, ())
def dU (n : Nat) (x : List UInt8 × List (List UInt8 × List UInt8 × Unit) × List UInt8 × List (List UInt8 × List UInt8 × Unit) × Int × Unit) : Option (List UInt8 × List (List UInt8 × List UInt8 × Unit) × List (Int) × Int × Int × Int × Int × List UInt8 × List (List UInt8 × List UInt8 × Unit) × Int × Unit) :=
 let Xo : List UInt8 := x.1
 let t_2 : List (List UInt8 × List UInt8 × Unit) := x.2.1
 let b3 : List UInt8 := x.2.2.1
 let b4 : List (List UInt8 × List UInt8 × Unit) := x.2.2.2.1
 let b5 : Int := x.2.2.2.2.1
 ob (jF n (Xo, t_2)) fun y6 =>
 br (y6.2.2 != 0) (
  some ([], [], [], 0, 0, y6.2.1, y6.2.2, b3, b4, b5, ())) (
  ob (vR n (y6.1, b3, b4, b5, ())) fun y7 =>
  br (y7.2.2.2.2.2.1 != 0) (
   some ([], [], [], 0, 0, 0, y7.2.2.2.2.2.1, y7.2.2.2.2.2.2.1, y7.2.2.2.2.2.2.2.1, y7.2.2.2.2.2.2.2.2.1, ())) (
   ob (rV n (y7.1, (y7.2.1, (y7.2.2.1, (y7.2.2.2.1, (y7.2.2.2.2.1, ())))))) fun y8 =>
   some (y7.1, y7.2.1, y7.2.2.1, y8, y7.2.2.2.1, 0, 0, y7.2.2.2.2.2.2.1, y7.2.2.2.2.2.2.2.1, y7.2.2.2.2.2.2.2.2.1, ())))
def pE (n : Nat) (x : List UInt8 × List UInt8 × List (List UInt8 × List UInt8 × Unit) × Int) : Option ((List UInt8 × List (List UInt8 × List UInt8 × Unit) × List (Int) × Int × Int × Unit) × Int × Int) :=
 let rX : List UInt8 := x.1
 let Az : List UInt8 := x.2.1
 let t_2 : List (List UInt8 × List UInt8 × Unit) := x.2.2.1
 let zPc : Int := x.2.2.2
 ob (dU n (rX, t_2, Az, t_2, zPc, ())) fun y1 =>
 some ((y1.1, (y1.2.1, (y1.2.2.1, (y1.2.2.2.1, (y1.2.2.2.2.1, ()))))), y1.2.2.2.2.2.1, y1.2.2.2.2.2.2.1)
def nK (n : Nat) (x : List UInt8 × List UInt8 × Bool) : Option (Bool) :=
 let rX : List UInt8 := x.1
 let Az : List UInt8 := x.2.1
 let zPd : Bool := x.2.2
 br (decide ((rX.length : Int) > 200)) (
  ob (shown22 n ()) fun y1 =>
  some y1) (
  br (decide ((Az.length : Int) > 200)) (
   ob (shown22 n ()) fun y2 =>
   some y2) (
   ob (shown22 n ()) fun y3 =>
   br (!y3) (
    ob (shown22 n ()) fun y4 =>
    some y4) (
    ob (jN n rX) fun y5 =>
    br (y5.2.2 == 0) (
     some true) (
     ob (rW n (rX, Az, [([102], (Az, ()))], zPd, 100)) fun y6 =>
     ob (pE n (rX, Az, [([102], (Az, ()))], 100)) fun y7 =>
     br (y6.2.2 == y5.2.2) (
      br (y7.2.2 == y5.2.2) (
       br (y6.2.1 == y5.2.1) (
        br (y7.2.1 == y5.2.1) (
         br (y6.1.1 == []) (
          br (y7.1.1 == []) (
           br ((y6.1.2.1.length : Int) == 0) (
            let v8 : Int := (y7.1.2.2.1.length : Int)
            some (v8 == 0)) (
            some false)) (
           some false)) (
          some false)) (
         some false)) (
        some false)) (
       some false)) (
      some false)))))
end Go.Dec
namespace Go.Dec
open Go.Proofs
set_option linter.unusedVariables false
def tab : Tab := [(3, ⟨.int .i64, 1, 8, [.val (.int .i64) 0], some (.int .i64), false⟩),
 (4, ⟨.bool, 1, 1, [.val .bool false], some .bool, false⟩),
 (5, ⟨.int .u8, 1, 1, [.val (.int .u8) 0], some (.int .u8), false⟩),
 (9, ⟨.str, 1, 16, [.val .str []], some .str, false⟩),
 (23, ⟨.slice 225, 1, 24, [.aK], some (.slice nJ), false⟩),
 (24, ⟨.slice 50, 1, 24, [.aK], some (.slice fA), false⟩),
 (26, ⟨.struct [(0, 4), (1, 23), (2, 24)], 3, 56, [.val .bool false, .aK, .aK], some Gx, false⟩),
 (27, ⟨.slice 9, 1, 24, [.aK], some (.slice .str), false⟩),
 (29, ⟨.struct [(0, 26), (3, 4), (4, 27), (5, 4)], 6, 96, [.val .bool false, .aK, .aK, .val .bool false, .aK, .val .bool false], some jE, false⟩),
 (30, ⟨.slice 90, 1, 24, [.aK], some (.slice lY), false⟩),
 (31, ⟨.slice 38, 1, 24, [.aK], some (.slice fD), false⟩),
 (34, ⟨.int .i64, 1, 8, [.val (.int .i64) 0], some (.int .i64), false⟩),
 (38, ⟨.struct [(0, 9), (1, 9)], 2, 32, [.val .str [], .val .str []], some fD, true⟩),
 (40, ⟨.slice 83, 1, 24, [.aK], some (.slice lY), false⟩),
 (45, ⟨.struct [(0, 3), (1, 3), (2, 3)], 3, 24, [.val (.int .i64) 0, .val (.int .i64) 0, .val (.int .i64) 0], some Mv, true⟩),
 (47, ⟨.struct [(0, 45), (3, 45), (6, 4)], 7, 56, [.val (.int .i64) 0, .val (.int .i64) 0, .val (.int .i64) 0, .val (.int .i64) 0, .val (.int .i64) 0, .val (.int .i64) 0, .val .bool false], some yN, true⟩),
 (48, ⟨.slice 312, 1, 24, [.aK], some (.slice zDm), false⟩),
 (50, ⟨.struct [(0, 47), (7, 5), (8, 9), (9, 9), (10, 3), (11, 3), (12, 3), (13, 48), (14, 4), (15, 4)], 16, 152, [.val (.int .i64) 0, .val (.int .i64) 0, .val (.int .i64) 0, .val (.int .i64) 0, .val (.int .i64) 0, .val (.int .i64) 0, .val .bool false, .val (.int .u8) 0, .val .str [], .val .str [], .val (.int .i64) 0, .val (.int .i64) 0, .val (.int .i64) 0, .aK, .val .bool false, .val .bool false], some fA, false⟩),
 (56, ⟨.slice 27, 1, 24, [.aK], some (.slice (.slice .str)), false⟩),
 (59, ⟨.slice 3, 1, 24, [.aK], some (.slice (.int .i64)), false⟩),
 (61, ⟨.struct [(0, 9), (1, 31), (2, 59), (3, 3), (4, 3)], 5, 80, [.val .str [], .aK, .aK, .val (.int .i64) 0, .val (.int .i64) 0], some kF, false⟩),
 (65, ⟨.slice 4, 1, 24, [.aK], some (.slice .bool), false⟩),
 (75, ⟨.slice 173, 1, 24, [.aK], some (.slice zDn), false⟩),
 (76, ⟨.slice 217, 1, 24, [.aK], some (.slice lY), false⟩),
 (78, ⟨.struct [(0, 3), (1, 3), (2, 3), (3, 3), (4, 3), (5, 9), (6, 9), (7, 4), (8, 4), (9, 4), (10, 75), (11, 76)], 12, 128, [.val (.int .i64) 0, .val (.int .i64) 0, .val (.int .i64) 0, .val (.int .i64) 0, .val (.int .i64) 0, .val .str [], .val .str [], .val .bool false, .val .bool false, .val .bool false, .aK, .aK], some iR, false⟩),
 (83, ⟨.struct [(0, 9), (1, 4)], 2, 24, [.val .str [], .val .bool false], some lY, true⟩),
 (86, ⟨.ptr 89, 1, 8, [.gV], none, false⟩),
 (87, ⟨.slice 5, 1, 24, [.aK], some (.slice (.int .u8)), false⟩),
 (89, ⟨.struct [(0, 86), (1, 87)], 2, 32, [.gV, .aK], none, false⟩),
 (90, ⟨.struct [(0, 9), (1, 4)], 2, 24, [.val .str [], .val .bool false], some lY, true⟩),
 (92, ⟨.iface false, 1, 16, [.val .err false], some .err, false⟩),
 (109, ⟨.slice 29, 1, 24, [.aK], some (.slice jE), false⟩),
 (111, ⟨.struct [(0, 9), (1, 31), (2, 59), (3, 3), (4, 3)], 5, 80, [.val .str [], .aK, .aK, .val (.int .i64) 0, .val (.int .i64) 0], some kF, false⟩),
 (112, ⟨.slice 78, 1, 24, [.aK], some (.slice iR), false⟩),
 (113, ⟨.slice 40, 1, 24, [.aK], some (.slice (.slice lY)), false⟩),
 (114, ⟨.slice 148, 1, 24, [.aK], some (.slice Xm), false⟩),
 (116, ⟨.struct [(0, 109), (1, 65), (2, 4), (3, 112), (4, 65), (5, 113), (6, 114), (7, 30), (8, 31), (9, 59), (10, 3), (11, 3), (12, 3)], 13, 248, [.aK, .aK, .val .bool false, .aK, .aK, .aK, .aK, .aK, .aK, .aK, .val (.int .i64) 0, .val (.int .i64) 0, .val (.int .i64) 0], some Yu, false⟩),
 (120, ⟨.func, 1, 8, [.val .opq Value.nilFunc], some .opq, false⟩),
 (148, ⟨.struct [(0, 9), (1, 4), (2, 4)], 3, 24, [.val .str [], .val .bool false, .val .bool false], some Xm, true⟩),
 (170, ⟨.slice 230, 1, 24, [.aK], some (.slice vQ), false⟩),
 (173, ⟨.struct [(0, 4), (1, 3)], 2, 16, [.val .bool false, .val (.int .i64) 0], some zDn, true⟩),
 (217, ⟨.struct [(0, 9), (1, 4)], 2, 24, [.val .str [], .val .bool false], some lY, true⟩),
 (225, ⟨.struct [(0, 170), (1, 4)], 2, 32, [.aK, .val .bool false], some nJ, false⟩),
 (226, ⟨.int .u64, 1, 8, [.val (.int .u64) 0], some (.int .u64), false⟩),
 (228, ⟨.arr 4 226, 4, 32, [.val (.arr 4 (.int .u64)) ([0, 0, 0, 0])], some (.arr 4 (.int .u64)), true⟩),
 (230, ⟨.struct [(0, 3), (1, 228), (5, 3), (6, 3), (7, 3), (8, 3), (9, 3)], 10, 80, [.val (.int .i64) 0, .val (.arr 4 (.int .u64)) ([0, 0, 0, 0]), .val (.int .i64) 0, .val (.int .i64) 0, .val (.int .i64) 0, .val (.int .i64) 0, .val (.int .i64) 0], some vQ, true⟩),
 (312, ⟨.struct [(0, 9), (1, 3)], 2, 24, [.val .str [], .val (.int .i64) 0], some zDm, true⟩)]
theorem lG : aR Tryz.prog tab := Hl (by kernel_rfl)
theorem mixed : Tryz.prog.follows .mixedOrders = true := by kernel_rfl
abbrev vS : List Ty := [.str, .slice fD]
abbrev pF : List Ty := [.slice jE, .int .i64, .int .i64]
abbrev jO : Sh := ⟨2, [⟨0, false, [.ptr 0 0]⟩, ⟨1, false, [.v .str]⟩], [.box 89 [.aZ 0 0, .own 1], .row 5 (.int .u8)]⟩
abbrev fO : Sh := ⟨2, [⟨0, false, [.v (.int .i64)]⟩, ⟨1, false, [.v .err]⟩], [.box 89 [.aZ 0 0, .own 1], .row 5 (.int .u8)]⟩
abbrev Gy : List Ty := [.slice lY]
abbrev xH : List Ty := [.str]
abbrev Ei : Sh := ⟨5, [⟨0, false, [.v (.slice jE)]⟩, ⟨1, false, [.ptr 0 0]⟩, ⟨2, false, [.ptr 1 0]⟩, ⟨3, false, [.ptr 2 0]⟩, ⟨4, false, [.ptr 3 0]⟩], [.box 9 [.v .str], .box 31 [.v (.slice fD)], .box 4 [.v .bool], .box 3 [.v (.int .i64)]]⟩
abbrev vT : Sh := ⟨2, [⟨0, true, [.v .str, .v (.slice fD), .v (.slice (.int .i64)), .v (.int .i64), .v (.int .i64)]⟩, ⟨1, false, [.v (.int .i64)]⟩], [.box 9 [.v .str], .box 31 [.v (.slice fD)], .box 4 [.v .bool], .box 3 [.v (.int .i64)]]⟩
abbrev Ba : List Ty := [kF]
abbrev uJ : List Ty := [.int .i64]
abbrev kG : Sh := ⟨3, [⟨0, false, [.v .str]⟩, ⟨1, false, [.v (.slice fD)]⟩, ⟨2, false, [.clo 41 [(0, 0), (1, 0), (2, 0), (3, 0)]]⟩], [.box 9 [.v .str], .box 31 [.v (.slice fD)], .box 4 [.v .bool], .box 3 [.v (.int .i64)]]⟩
abbrev gQ : Sh := ⟨3, [⟨0, true, [.v .str, .v (.slice fD), .v (.slice (.int .i64)), .v (.int .i64), .v (.int .i64)]⟩, ⟨1, false, [.v (.int .i64)]⟩, ⟨2, false, [.v (.int .i64)]⟩], [.box 9 [.v .str], .box 31 [.v (.slice fD)], .box 4 [.v .bool], .box 3 [.v (.int .i64)]]⟩
abbrev Mw : List Ty := [.str, .str, .slice fD, .bool, .int .i64]
abbrev Bc : List Ty := [kF, .int .i64, .int .i64]
abbrev Bp : Sh := ⟨4, [⟨0, false, [.v (.slice jE)]⟩, ⟨1, false, [.ptr 0 0]⟩, ⟨2, false, [.ptr 1 0]⟩, ⟨3, false, [.ptr 2 0]⟩], [.box 9 [.v .str], .box 31 [.v (.slice fD)], .box 3 [.v (.int .i64)]]⟩
abbrev sP : Sh := ⟨2, [⟨0, true, [.v .str, .v (.slice fD), .v (.slice (.int .i64)), .v (.int .i64), .v (.int .i64)]⟩, ⟨1, false, [.v (.int .i64)]⟩], [.box 9 [.v .str], .box 31 [.v (.slice fD)], .box 3 [.v (.int .i64)]]⟩
abbrev jQ : Sh := ⟨3, [⟨0, false, [.v .str]⟩, ⟨1, false, [.v (.slice fD)]⟩, ⟨2, false, [.clo 44 [(0, 0), (1, 0), (2, 0)]]⟩], [.box 9 [.v .str], .box 31 [.v (.slice fD)], .box 3 [.v (.int .i64)]]⟩
abbrev gJ : Sh := ⟨3, [⟨0, true, [.v .str, .v (.slice fD), .v (.slice (.int .i64)), .v (.int .i64), .v (.int .i64)]⟩, ⟨1, false, [.v (.int .i64)]⟩, ⟨2, false, [.v (.int .i64)]⟩], [.box 9 [.v .str], .box 31 [.v (.slice fD)], .box 3 [.v (.int .i64)]]⟩
abbrev Gz : List Ty := [.str, .str, .slice fD, .int .i64]
abbrev xI : List Ty := [kF, .int .i64, .int .i64]
abbrev Gf : List Ty := [.str, .str, .bool]
abbrev sS : List Ty := [.bool]
def Rt (n : Nat) : An (bV pF) := (.mk .nil (.mk .nil (.mk .nil (.mk (.mk .nil (.mk (.loop ⟨34, [⟨1, false, [.v (.slice fD)]⟩, ⟨4, false, [.own 0]⟩, ⟨20, false, [.v (.slice (.slice .str))]⟩, ⟨21, false, [.v (.int .i64)]⟩, ⟨22, false, [.v (.int .i64)]⟩], [.row 29 jE]⟩ [.keep [false, true, false, false, true, false, false, false, false, false, false, false, false, false, false, false, false, false, false, false, true, true, true], .gcA 0, .Uf 4 109, .gcA 0] [.keep [false, true, false, false, true, false, false, false, false, false, false, false, false, false, false, false, false, false, false, false, true, true, true], .gcA 0, .gcA 0] n .nil) .nil []) []) .nil []) []) []) [])
theorem vU (n : Nat) : Pure Tryz.prog 60 vS pF (jF n) :=
 nT (Γ := kW _ [(16, jC sK mX (jN n)), (109, jC vO vP (oZ n))] []) (an := Rt n) Tryz.func60 rfl (by kernel_rfl) lG (fG (all_cons (dP (sQ n)) (all_cons (dP (Aw n)) (all_nil))) (fH)) mixed (dI _ _ rfl) (fun x => by kernel_rfl)
def pG (n : Nat) : An (fO.X) := .nil
theorem mM (n : Nat) : oI Tryz.prog 28 jO fO (dO n) :=
 nD (Γ := kW _ [(55, peM qI qJ (sI n))] []) (an := pG n) (co := [.gc [0, 1]]) Tryz.func28 rfl (by kernel_rfl) lG (fG (all_cons (oJ (Bv n)) (all_nil)) (fH)) mixed (dI _ _ rfl) (by kernel_rfl) (by kernel_rfl) (fun x => by kernel_rfl)
def Xp (n : Nat) : An (bV xH) := (.mk .nil (.mk .nil (.mk .nil (.mk (.mk .nil (.mk (.loop ⟨23, [⟨3, false, [.ptr 0 0]⟩, ⟨4, false, [.v .str]⟩, ⟨7, false, [.v (.slice lY)]⟩, ⟨8, false, [.v (.int .i64)]⟩, ⟨9, false, [.v (.int .i64)]⟩], [.box 89 [.aZ 0 0, .own 1], .row 5 (.int .u8)]⟩ [.keep [false, false, false, true, true, false, false, true, true, true], .gcA 0, .ownB 0 1 87, .orn 0 0 0 0, .gcA 0] [.keep [false, false, false, true, true, false, false, true, true, true], .gcA 0, .gcA 0] n .nil) .nil []) []) .nil []) []) []) [])
theorem Mx (n : Nat) : Pure Tryz.prog 11 Gy xH (Ay n) :=
 nT (Γ := kW _ [(28, peM jO fO (dO n)), (29, peM oP kN (Builder_String n))] []) (an := Xp n) Tryz.func11 rfl (by kernel_rfl) lG (fG (all_cons (oJ (mM n)) (all_cons (oJ (Am n)) (all_nil))) (fH)) mixed (dI _ _ rfl) (fun x => by kernel_rfl)
def Ru (n : Nat) : An (vT.X) := .nil
theorem Gg (n : Nat) : oI Tryz.prog 41 Ei vT (xG n) :=
 nD (Γ := kW _ [(42, jC yH yI (sM n)), (43, jC yJ yK (sN n)), (11, jC Gy xH (Ay n))] []) (an := Ru n) (co := [.gc [0, 1, 2, 3]]) Tryz.func41 rfl (by kernel_rfl) lG (fG (all_cons (dP (Ee n)) (all_cons (dP (Ef n)) (all_cons (dP (Mx n)) (all_nil)))) (fH)) mixed (dI _ _ rfl) (by kernel_rfl) (by kernel_rfl) (fun x => by kernel_rfl)
def Yv (n : Nat) : An (bV uJ) := .nil
theorem yO (n : Nat) : Pure Tryz.prog 61 Ba uJ (rV n) :=
 nT (Γ := kW _ [] []) (an := Yv n) Tryz.func61 rfl (by kernel_rfl) lG (fG (all_nil) (fH)) mixed (dI _ _ rfl) (fun x => by kernel_rfl)
def rY (n : Nat) : An (gQ.X) := .nil
theorem nW (n : Nat) : oI Tryz.prog 40 kG gQ (dZ n) :=
 nD (Γ := kW _ [(60, jC vS pF (jF n)), (41, peM Ei vT (xG n)), (61, jC Ba uJ (rV n))] []) (an := rY n) (co := [.gc [0, 1, 2, 3]]) Tryz.func40 rfl (by kernel_rfl) lG (fG (all_cons (dP (vU n)) (all_cons (oJ (Gg n)) (all_cons (dP (yO n)) (all_nil)))) (fH)) mixed (dI _ _ rfl) (by kernel_rfl) (by kernel_rfl) (fun x => by kernel_rfl)
def Yw (n : Nat) : An (bV Bc) := .nil
theorem Ov (n : Nat) : Pure Tryz.prog 17 Mw Bc (rW n) :=
 nT (Γ := kW _ [(40, peM kG gQ (dZ n))] []) (an := Yw n) Tryz.func17 rfl (by kernel_rfl) lG (fG (all_cons (oJ (nW n)) (all_nil)) (fH)) mixed (dI _ _ rfl) (fun x => by kernel_rfl)
def Ow (n : Nat) : An (sP.X) := .nil
theorem Ej (n : Nat) : oI Tryz.prog 44 Bp sP (vR n) :=
 nD (Γ := kW _ [(45, jC yL yM (sO n))] []) (an := Ow n) (co := [.gc [0, 1, 2]]) Tryz.func44 rfl (by kernel_rfl) lG (fG (all_cons (dP (Eh n)) (all_nil)) (fH)) mixed (dI _ _ rfl) (by kernel_rfl) (by kernel_rfl) (fun x => by kernel_rfl)
def qM (n : Nat) : An (gJ.X) := .nil
theorem nL (n : Nat) : oI Tryz.prog 40 jQ gJ (dU n) :=
 nD (Γ := kW _ [(60, jC vS pF (jF n)), (44, peM Bp sP (vR n)), (61, jC Ba uJ (rV n))] []) (an := qM n) (co := [.gc [0, 1, 2]]) Tryz.func40 rfl (by kernel_rfl) lG (fG (all_cons (dP (vU n)) (all_cons (oJ (Ej n)) (all_cons (dP (yO n)) (all_nil)))) (fH)) mixed (dI _ _ rfl) (by kernel_rfl) (by kernel_rfl) (fun x => by kernel_rfl)
def Xq (n : Nat) : An (bV xI) := .nil
theorem Na (n : Nat) : Pure Tryz.prog 18 Gz xI (pE n) :=
 nT (Γ := kW _ [(40, peM jQ gJ (dU n))] []) (an := Xq n) Tryz.func18 rfl (by kernel_rfl) lG (fG (all_cons (oJ (nL n)) (all_nil)) (fH)) mixed (dI _ _ rfl) (fun x => by kernel_rfl)
def El (n : Nat) : An (bV sS) := .nil
theorem xK (n : Nat) : Pure Tryz.prog 7 Gf sS (nK n) :=
 nT (Γ := kW _ [(15, jC Xj Xk (shown22 n)), (16, jC sK mX (jN n)), (17, jC Mw Bc (rW n)), (18, jC Gz xI (pE n))] []) (an := El n) Tryz.func7 rfl (by kernel_rfl) lG (fG (all_cons (dP (Xl n)) (all_cons (dP (sQ n)) (all_cons (dP (Ov n)) (all_cons (dP (Na n)) (all_nil))))) (fH)) mixed (dI _ _ rfl) (fun x => by kernel_rfl)
end Go.Dec
