/- What the functions of this seat come to, as plain functions: printed by my decompiler, checked by the kernel. No statement is proved here. -/
import Derived.Test.YtpehkjgbhnegmaaProg
import Derived.Test.YtpehkjgbhnegmaaDecT
import Derived.Test.YtpehkjgbhnegmaaLib
import Derived.KernelRfl
namespace Go.Dec
open Go.Proofs
set_option linter.unusedVariables false

abbrev S0 : Ty := .pair (.int .i64) (.pair (.int .i64) (.pair .bool (.pair (.int .u8) .unit)))
abbrev S1 : Ty := .pair .str (.pair (.int .u64) .unit)
abbrev S2 : Ty := .pair .str (.pair .bool (.pair .bool .unit))
abbrev S3 : Ty := .pair .str (.pair .bool .unit)
abbrev S4 : Ty := .pair .str (.pair .str .unit)

def tab : Tab := [(3, ⟨.int .i64, 1, 8, [.val (.int .i64) 0], some (.int .i64), false⟩),
  (4, ⟨.bool, 1, 1, [.val .bool false], some .bool, false⟩),
  (5, ⟨.int .u8, 1, 1, [.val (.int .u8) 0], some (.int .u8), false⟩),
  (9, ⟨.str, 1, 16, [.val .str []], some .str, false⟩),
  (23, ⟨.struct [(0, 9), (1, 4), (2, 4)], 3, 24, [.val .str [], .val .bool false, .val .bool false], some S2, true⟩),
  (25, ⟨.struct [(0, 9), (1, 4)], 2, 24, [.val .str [], .val .bool false], some S3, true⟩),
  (27, ⟨.struct [(0, 9), (1, 4)], 2, 24, [.val .str [], .val .bool false], some S3, true⟩),
  (30, ⟨.struct [(0, 9), (1, 4), (2, 4)], 3, 24, [.val .str [], .val .bool false, .val .bool false], some S2, true⟩),
  (31, ⟨.struct [(0, 9), (1, 4)], 2, 24, [.val .str [], .val .bool false], some S3, true⟩),
  (39, ⟨.struct [(0, 9), (1, 4)], 2, 24, [.val .str [], .val .bool false], some S3, true⟩),
  (45, ⟨.slice 27, 1, 24, [.nils], some (.slice S3), false⟩),
  (51, ⟨.slice 62, 1, 24, [.nils], some (.slice S4), false⟩),
  (56, ⟨.slice 91, 1, 24, [.nils], some (.slice S4), false⟩),
  (62, ⟨.struct [(0, 9), (1, 9)], 2, 32, [.val .str [], .val .str []], some S4, true⟩),
  (68, ⟨.slice 31, 1, 24, [.nils], some (.slice S3), false⟩),
  (91, ⟨.struct [(0, 9), (1, 9)], 2, 32, [.val .str [], .val .str []], some S4, true⟩)]
theorem tab_ok : TabOK Try.prog tab := tabOK_of (by kernel_rfl)
theorem mixed : Try.prog.follows .mixedOrders = true := by kernel_rfl

/-- calender/calenderlaw18.its -/

abbrev f17A : List Ty := [S2]

abbrev f17R : List Ty := [S2]

def f17 (n : Nat) (x : Dens f17A) : Option (Dens f17R) :=
  let k_0 : List UInt8 × Bool × Bool × Unit := x
  some k_0

def f17An (n : Nat) : An (Dens f17R) := .nil

theorem f17_pure (n : Nat) : Pure Try.prog 17 f17A f17R (f17 n) :=
  pure_of (Γ := orc _ []) (an := f17An n) Try.func17 rfl (by kernel_rfl) tab_ok (orc_ok (all_nil)) mixed (plain_ok _ _ rfl) (fun x => by kernel_rfl)

/-- calender/link.Push -/

abbrev f19A : List Ty := [S2, S3]

abbrev f19R : List Ty := [S2]

def f19 (n : Nat) (x : Dens f19A) : Option (Dens f19R) :=
  let k_0 : List UInt8 × Bool × Bool × Unit := x.1
  let e_1 : List UInt8 × Bool × Unit := x.2
  br k_0.2.2.1 (
    some k_0) (
    br k_0.2.1 (
      chk (decide (k_0.1.length + ([10] : List UInt8).length ≤ maxStr)) (
        chk (decide ((k_0.1 ++ [10]).length + e_1.1.length ≤ maxStr)) (
          br e_1.2.1 (
            chk (decide (((k_0.1 ++ [10]) ++ e_1.1).length + ([10] : List UInt8).length ≤ maxStr)) (
              let v1 : List UInt8 := ((k_0.1 ++ [10]) ++ e_1.1) ++ [10]
              some (v1, ((!e_1.2.1), k_0.2.2)))) (
            some ((k_0.1 ++ [10]) ++ e_1.1, ((!e_1.2.1), k_0.2.2)))))) (
      chk (decide (k_0.1.length + e_1.1.length ≤ maxStr)) (
        br e_1.2.1 (
          chk (decide ((k_0.1 ++ e_1.1).length + ([10] : List UInt8).length ≤ maxStr)) (
            some ((k_0.1 ++ e_1.1) ++ [10], ((!e_1.2.1), k_0.2.2)))) (
          some (k_0.1 ++ e_1.1, ((!e_1.2.1), k_0.2.2))))))

def f19An (n : Nat) : An (Dens f19R) := .nil

theorem f19_pure (n : Nat) : Pure Try.prog 19 f19A f19R (f19 n) :=
  pure_of (Γ := orc _ []) (an := f19An n) Try.func19 rfl (by kernel_rfl) tab_ok (orc_ok (all_nil)) mixed (plain_ok _ _ rfl) (fun x => by kernel_rfl)

/-- calender/calenderref18.Push -/

abbrev f20A : List Ty := [S2, S3]

abbrev f20R : List Ty := [S2]

def f20 (n : Nat) (x : Dens f20A) : Option (Dens f20R) :=
  let k_0 : List UInt8 × Bool × Bool × Unit := x.1
  let e_1 : List UInt8 × Bool × Unit := x.2
  br k_0.2.2.1 (
    some k_0) (
    br k_0.2.1 (
      chk (decide (k_0.1.length + ([10] : List UInt8).length ≤ maxStr)) (
        chk (decide ((k_0.1 ++ [10]).length + e_1.1.length ≤ maxStr)) (
          br e_1.2.1 (
            chk (decide (((k_0.1 ++ [10]) ++ e_1.1).length + ([10] : List UInt8).length ≤ maxStr)) (
              let v1 : List UInt8 := ((k_0.1 ++ [10]) ++ e_1.1) ++ [10]
              some (v1, ((!e_1.2.1), k_0.2.2)))) (
            some ((k_0.1 ++ [10]) ++ e_1.1, ((!e_1.2.1), k_0.2.2)))))) (
      chk (decide (k_0.1.length + e_1.1.length ≤ maxStr)) (
        br e_1.2.1 (
          chk (decide ((k_0.1 ++ e_1.1).length + ([10] : List UInt8).length ≤ maxStr)) (
            some ((k_0.1 ++ e_1.1) ++ [10], ((!e_1.2.1), k_0.2.2)))) (
          some (k_0.1 ++ e_1.1, ((!e_1.2.1), k_0.2.2))))))

def f20An (n : Nat) : An (Dens f20R) := .nil

theorem f20_pure (n : Nat) : Pure Try.prog 20 f20A f20R (f20 n) :=
  pure_of (Γ := orc _ []) (an := f20An n) Try.func20 rfl (by kernel_rfl) tab_ok (orc_ok (all_nil)) mixed (plain_ok _ _ rfl) (fun x => by kernel_rfl)

/-- calender/link.Close -/

abbrev f21A : List Ty := [S2]

abbrev f21R : List Ty := [S2]

def f21 (n : Nat) (x : Dens f21A) : Option (Dens f21R) :=
  let k_0 : List UInt8 × Bool × Bool × Unit := x
  some (k_0.1, (k_0.2.1, (true, ())))

def f21An (n : Nat) : An (Dens f21R) := .nil

theorem f21_pure (n : Nat) : Pure Try.prog 21 f21A f21R (f21 n) :=
  pure_of (Γ := orc _ []) (an := f21An n) Try.func21 rfl (by kernel_rfl) tab_ok (orc_ok (all_nil)) mixed (plain_ok _ _ rfl) (fun x => by kernel_rfl)

/-- calender/calenderref18.Close -/

abbrev f22A : List Ty := [S2]

abbrev f22R : List Ty := [S2]

def f22 (n : Nat) (x : Dens f22A) : Option (Dens f22R) :=
  let k_0 : List UInt8 × Bool × Bool × Unit := x
  some (k_0.1, (k_0.2.1, (true, ())))

def f22An (n : Nat) : An (Dens f22R) := .nil

theorem f22_pure (n : Nat) : Pure Try.prog 22 f22A f22R (f22 n) :=
  pure_of (Γ := orc _ []) (an := f22An n) Try.func22 rfl (by kernel_rfl) tab_ok (orc_ok (all_nil)) mixed (plain_ok _ _ rfl) (fun x => by kernel_rfl)

/-- calender/link.Ended -/

abbrev f23A : List Ty := [S2]

abbrev f23R : List Ty := [.bool]

def f23 (n : Nat) (x : Dens f23A) : Option (Dens f23R) :=
  let k_0 : List UInt8 × Bool × Bool × Unit := x
  br k_0.2.2.1 (
    some (k_0.1 == [])) (
    some false)

def f23An (n : Nat) : An (Dens f23R) := .nil

theorem f23_pure (n : Nat) : Pure Try.prog 23 f23A f23R (f23 n) :=
  pure_of (Γ := orc _ []) (an := f23An n) Try.func23 rfl (by kernel_rfl) tab_ok (orc_ok (all_nil)) mixed (plain_ok _ _ rfl) (fun x => by kernel_rfl)

/-- calender/calenderref18.Ended -/

abbrev f24A : List Ty := [S2]

abbrev f24R : List Ty := [.bool]

def f24 (n : Nat) (x : Dens f24A) : Option (Dens f24R) :=
  let k_0 : List UInt8 × Bool × Bool × Unit := x
  br k_0.2.2.1 (
    some (k_0.1 == [])) (
    some false)

def f24An (n : Nat) : An (Dens f24R) := .nil

theorem f24_pure (n : Nat) : Pure Try.prog 24 f24A f24R (f24 n) :=
  pure_of (Γ := orc _ []) (an := f24An n) Try.func24 rfl (by kernel_rfl) tab_ok (orc_ok (all_nil)) mixed (plain_ok _ _ rfl) (fun x => by kernel_rfl)

/-- calender/calenderlaw08.bounded -/

abbrev f27A : List Ty := [.slice S4]

abbrev f27R : List Ty := [.bool]

def f27 (n : Nat) (x : Dens f27A) : Option (Dens f27R) :=
  let t_0 : List (List UInt8 × List UInt8 × Unit) := x
  fix (fun g0 (x1 : List (List UInt8 × List UInt8 × Unit) × Int × Unit) =>
    let t_2 : List (List UInt8 × List UInt8 × Unit) := x1.1
    let i_3 : Int := x1.2.1
    br (decide (i_3 < (t_2.length : Int))) (
      chk (inB i_3 t_2.length) (
        let v4 : List UInt8 × List UInt8 × Unit := getAt (Ty.dflt S4) t_2 i_3
        br (decide ((v4.1.length : Int) > 100)) (
          some false) (
          chk (inB i_3 t_2.length) (
            let v5 : List UInt8 × List UInt8 × Unit := getAt (Ty.dflt S4) t_2 i_3
            br (decide ((v5.2.1.length : Int) > 300)) (
              some false) (
              let v6 : Int := IntKind.wrap .i64 (i_3 + 1)
              g0 (t_2, v6, ())))))) (
      some (decide ((t_2.length : Int) ≤ 40)))) n (t_0, 0, ())

def f27An (n : Nat) : An (Dens f27R) := (.mk .nil (.mk (.mk .nil (.mk (.loop ⟨29, [⟨0, false, [.v (.slice S4)]⟩, ⟨3, false, [.v (.int .i64)]⟩], []⟩ [.keep [true, false, false, true]] [.keep [true, false, false, true], .trunc 0] n .nil) .nil []) []) .nil []) [])

theorem f27_pure (n : Nat) : Pure Try.prog 27 f27A f27R (f27 n) :=
  pure_of (Γ := orc _ []) (an := f27An n) Try.func27 rfl (by kernel_rfl) tab_ok (orc_ok (all_nil)) mixed (plain_ok _ _ rfl) (fun x => by kernel_rfl)

/-- calender/calenderref08.Get -/

abbrev f30A : List Ty := [.slice S4, .str]

abbrev f30R : List Ty := [.str, .bool]

def f30 (n : Nat) (x : Dens f30A) : Option (Dens f30R) :=
  let t_0 : List (List UInt8 × List UInt8 × Unit) := x.1
  let name_1 : List UInt8 := x.2
  fix (fun g0 (x1 : List (List UInt8 × List UInt8 × Unit) × List UInt8 × Int × Unit) =>
    let t_2 : List (List UInt8 × List UInt8 × Unit) := x1.1
    let name_3 : List UInt8 := x1.2.1
    let i_4 : Int := x1.2.2.1
    br (decide (i_4 < (t_2.length : Int))) (
      chk (inB i_4 t_2.length) (
        let v5 : List UInt8 × List UInt8 × Unit := getAt (Ty.dflt S4) t_2 i_4
        br (v5.1 == name_3) (
          chk (inB i_4 t_2.length) (
            let v6 : List UInt8 × List UInt8 × Unit := getAt (Ty.dflt S4) t_2 i_4
            some (v6.2.1, true))) (
          let v7 : Int := IntKind.wrap .i64 (i_4 + 1)
          g0 (t_2, name_3, v7, ())))) (
      some ([], false))) n (t_0, name_1, 0, ())

def f30An (n : Nat) : An (Dens f30R) := (.mk .nil (.mk (.mk .nil (.mk (.loop ⟨25, [⟨0, false, [.v (.slice S4)]⟩, ⟨1, false, [.v .str]⟩, ⟨6, false, [.v (.int .i64)]⟩], []⟩ [.keep [true, true, false, false, false, false, true]] [.keep [true, true, false, false, false, false, true], .trunc 0] n .nil) .nil []) []) .nil []) [])

theorem f30_pure (n : Nat) : Pure Try.prog 30 f30A f30R (f30 n) :=
  pure_of (Γ := orc _ []) (an := f30An n) Try.func30 rfl (by kernel_rfl) tab_ok (orc_ok (all_nil)) mixed (plain_ok _ _ rfl) (fun x => by kernel_rfl)

/-- calender/calenderlaw08.its -/

abbrev f31A : List Ty := [.slice S4]

abbrev f31R : List Ty := [.slice S4]

def f31 (n : Nat) (x : Dens f31A) : Option (Dens f31R) :=
  let t_0 : List (List UInt8 × List UInt8 × Unit) := x
  fix (fun g0 (x1 : List (List UInt8 × List UInt8 × Unit) × Int × List (List UInt8 × List UInt8 × Unit) × Unit) =>
    let t_2 : List (List UInt8 × List UInt8 × Unit) := x1.1
    let i_3 : Int := x1.2.1
    let row4 : List (List UInt8 × List UInt8 × Unit) := x1.2.2.1
    br (decide (i_3 < (t_2.length : Int))) (
      chk (inB i_3 t_2.length) (
        let v5 : List UInt8 × List UInt8 × Unit := getAt (Ty.dflt S4) t_2 i_3
        chk (Nat.ble ((row4.length + ([v5] : List (List UInt8 × List UInt8 × Unit)).length) * 32) room) (
          let v6 : Int := IntKind.wrap .i64 (i_3 + 1)
          g0 (t_2, v6, row4 ++ [v5], ())))) (
      some row4)) n (t_0, 0, [], ())

def f31An (n : Nat) : An (Dens f31R) := (.mk .nil (.mk .nil (.mk (.mk .nil (.mk (.loop ⟨20, [⟨0, false, [.v (.slice S4)]⟩, ⟨3, false, [.own 0]⟩, ⟨4, false, [.v (.int .i64)]⟩], [.row 91 S4]⟩ [.keep [true, false, false, true, true], .ver 0] [.keep [true, false, false, true, true], .ver 0, .trunc 1] n .nil) .nil []) []) .nil []) []) [])

theorem f31_pure (n : Nat) : Pure Try.prog 31 f31A f31R (f31 n) :=
  pure_of (Γ := orc _ []) (an := f31An n) Try.func31 rfl (by kernel_rfl) tab_ok (orc_ok (all_nil)) mixed (plain_ok _ _ rfl) (fun x => by kernel_rfl)

/-- calender/table.May -/

abbrev f32A : List Ty := [.slice S4]

abbrev f32R : List Ty := [.bool]

def f32 (n : Nat) (x : Dens f32A) : Option (Dens f32R) :=
  let t_0 : List (List UInt8 × List UInt8 × Unit) := x
  fix (fun g0 (x1 : List UInt8 × List (List UInt8 × List UInt8 × Unit) × Int × Int × Unit) =>
    let last_2 : List UInt8 := x1.1
    let t6__3 : List (List UInt8 × List UInt8 × Unit) := x1.2.1
    let t7__4 : Int := x1.2.2.1
    let t8__5 : Int := x1.2.2.2.1
    br (decide (t8__5 < t7__4)) (
      chk (inB t8__5 t6__3.length) (
        let v6 : List UInt8 × List UInt8 × Unit := getAt (Ty.dflt S4) t6__3 t8__5
        br (Op.bytesLess v6.1 last_2 || v6.1 == last_2) (
          some false) (
          let v7 : Int := IntKind.wrap .i64 (t8__5 + 1)
          g0 (v6.1, t6__3, t7__4, v7, ())))) (
      some true)) n ([], t_0, (t_0.length : Int), 0, ())

def f32An (n : Nat) : An (Dens f32R) := (.mk .nil (.mk .nil (.mk (.mk .nil (.mk (.loop ⟨19, [⟨3, false, [.v .str]⟩, ⟨6, false, [.v (.slice S4)]⟩, ⟨7, false, [.v (.int .i64)]⟩, ⟨8, false, [.v (.int .i64)]⟩], []⟩ [.keep [false, false, false, true, false, false, true, true, true]] [.keep [false, false, false, true, false, false, true, true, true], .trunc 0] n .nil) .nil []) []) .nil []) []) [])

theorem f32_pure (n : Nat) : Pure Try.prog 32 f32A f32R (f32 n) :=
  pure_of (Γ := orc _ []) (an := f32An n) Try.func32 rfl (by kernel_rfl) tab_ok (orc_ok (all_nil)) mixed (plain_ok _ _ rfl) (fun x => by kernel_rfl)

/-- calender/calenderref08.May -/

abbrev f33A : List Ty := [.slice S4]

abbrev f33R : List Ty := [.bool]

def f33 (n : Nat) (x : Dens f33A) : Option (Dens f33R) :=
  let t_0 : List (List UInt8 × List UInt8 × Unit) := x
  fix (fun g0 (x1 : List (List UInt8 × List UInt8 × Unit) × Int × Unit) =>
    let t_2 : List (List UInt8 × List UInt8 × Unit) := x1.1
    let i_3 : Int := x1.2.1
    br (decide (i_3 < (t_2.length : Int))) (
      chk (inB i_3 t_2.length) (
        let v4 : List UInt8 × List UInt8 × Unit := getAt (Ty.dflt S4) t_2 i_3
        br (v4.1 == []) (
          some false) (
          br (decide (i_3 > 0)) (
            let v5 : Int := IntKind.wrap .i64 (i_3 - 1)
            chk (inB v5 t_2.length) (
              let v6 : List UInt8 × List UInt8 × Unit := getAt (Ty.dflt S4) t_2 v5
              chk (inB i_3 t_2.length) (
                let v7 : List UInt8 × List UInt8 × Unit := getAt (Ty.dflt S4) t_2 i_3
                br (!Op.bytesLess v6.1 v7.1) (
                  some false) (
                  let v8 : Int := IntKind.wrap .i64 (i_3 + 1)
                  g0 (t_2, v8, ()))))) (
            let v9 : Int := IntKind.wrap .i64 (i_3 + 1)
            g0 (t_2, v9, ()))))) (
      some true)) n (t_0, 0, ())

def f33An (n : Nat) : An (Dens f33R) := (.mk .nil (.mk (.mk .nil (.mk (.loop ⟨34, [⟨0, false, [.v (.slice S4)]⟩, ⟨3, false, [.v (.int .i64)]⟩], []⟩ [.keep [true, false, false, true]] [.keep [true, false, false, true], .trunc 0] n .nil) .nil []) []) .nil []) [])

theorem f33_pure (n : Nat) : Pure Try.prog 33 f33A f33R (f33 n) :=
  pure_of (Γ := orc _ []) (an := f33An n) Try.func33 rfl (by kernel_rfl) tab_ok (orc_ok (all_nil)) mixed (plain_ok _ _ rfl) (fun x => by kernel_rfl)

/-- calender/calenderref08.Put -/

abbrev f37A : List Ty := [.slice S4, .str, .str]

abbrev f37R : List Ty := [.slice S4]

def f37 (n : Nat) (x : Dens f37A) : Option (Dens f37R) :=
  let t_0 : List (List UInt8 × List UInt8 × Unit) := x.1
  let name_1 : List UInt8 := x.2.1
  let data_2 : List UInt8 := x.2.2
  br (name_1 == []) (
    some t_0) (
    fix (fun g0 (x1 : List (List UInt8 × List UInt8 × Unit) × List UInt8 × List UInt8 × Bool × Int × List (List UInt8 × List UInt8 × Unit) × Unit) =>
      let t_2 : List (List UInt8 × List UInt8 × Unit) := x1.1
      let name_3 : List UInt8 := x1.2.1
      let data_4 : List UInt8 := x1.2.2.1
      let in_5 : Bool := x1.2.2.2.1
      let i_6 : Int := x1.2.2.2.2.1
      let row7 : List (List UInt8 × List UInt8 × Unit) := x1.2.2.2.2.2.1
      br (decide (i_6 < (t_2.length : Int))) (
        br (!in_5) (
          chk (inB i_6 t_2.length) (
            let v8 : List UInt8 × List UInt8 × Unit := getAt (Ty.dflt S4) t_2 i_6
            br (!Op.bytesLess v8.1 name_3) (
              chk (Nat.ble ((row7.length + ([(name_3, (data_4, ()))] : List (List UInt8 × List UInt8 × Unit)).length) * 32) room) (
                let r9 : List (List UInt8 × List UInt8 × Unit) := row7 ++ [(name_3, (data_4, ()))]
                chk (inB i_6 t_2.length) (
                  let v10 : List UInt8 × List UInt8 × Unit := getAt (Ty.dflt S4) t_2 i_6
                  br (!(v10.1 == name_3)) (
                    chk (inB i_6 t_2.length) (
                      let v11 : List UInt8 × List UInt8 × Unit := getAt (Ty.dflt S4) t_2 i_6
                      chk (Nat.ble ((r9.length + ([v11] : List (List UInt8 × List UInt8 × Unit)).length) * 32) room) (
                        let v12 : Int := IntKind.wrap .i64 (i_6 + 1)
                        g0 (t_2, name_3, data_4, true, v12, r9 ++ [v11], ())))) (
                    let v13 : Int := IntKind.wrap .i64 (i_6 + 1)
                    g0 (t_2, name_3, data_4, true, v13, r9, ()))))) (
              chk (inB i_6 t_2.length) (
                let v14 : List UInt8 × List UInt8 × Unit := getAt (Ty.dflt S4) t_2 i_6
                br (!(v14.1 == name_3)) (
                  chk (inB i_6 t_2.length) (
                    let v15 : List UInt8 × List UInt8 × Unit := getAt (Ty.dflt S4) t_2 i_6
                    chk (Nat.ble ((row7.length + ([v15] : List (List UInt8 × List UInt8 × Unit)).length) * 32) room) (
                      let v16 : Int := IntKind.wrap .i64 (i_6 + 1)
                      g0 (t_2, name_3, data_4, in_5, v16, row7 ++ [v15], ())))) (
                  let v17 : Int := IntKind.wrap .i64 (i_6 + 1)
                  g0 (t_2, name_3, data_4, in_5, v17, row7, ())))))) (
          chk (inB i_6 t_2.length) (
            let v18 : List UInt8 × List UInt8 × Unit := getAt (Ty.dflt S4) t_2 i_6
            br (!(v18.1 == name_3)) (
              chk (inB i_6 t_2.length) (
                let v19 : List UInt8 × List UInt8 × Unit := getAt (Ty.dflt S4) t_2 i_6
                chk (Nat.ble ((row7.length + ([v19] : List (List UInt8 × List UInt8 × Unit)).length) * 32) room) (
                  let v20 : Int := IntKind.wrap .i64 (i_6 + 1)
                  g0 (t_2, name_3, data_4, in_5, v20, row7 ++ [v19], ())))) (
              let v21 : Int := IntKind.wrap .i64 (i_6 + 1)
              g0 (t_2, name_3, data_4, in_5, v21, row7, ()))))) (
        br (!in_5) (
          chk (Nat.ble ((row7.length + ([(name_3, (data_4, ()))] : List (List UInt8 × List UInt8 × Unit)).length) * 32) room) (
            let r22 : List (List UInt8 × List UInt8 × Unit) := row7 ++ [(name_3, (data_4, ()))]
            some r22)) (
          some row7))) n (t_0, name_1, data_2, false, 0, [], ()))

def f37An (n : Nat) : An (Dens f37R) := (.mk .nil (.mk .nil (.mk .nil (.mk .nil (.mk (.mk .nil (.mk (.loop ⟨60, [⟨0, false, [.v (.slice S4)]⟩, ⟨1, false, [.v .str]⟩, ⟨2, false, [.v .str]⟩, ⟨7, false, [.own 0]⟩, ⟨8, false, [.v .bool]⟩, ⟨9, false, [.v (.int .i64)]⟩], [.row 91 S4]⟩ [.keep [true, true, true, false, false, false, false, true, true, true], .ver 0] [.keep [true, true, true, false, false, false, false, true, true, true], .ver 0, .trunc 1] n .nil) .nil []) []) .nil []) []) []) []) [])

theorem f37_pure (n : Nat) : Pure Try.prog 37 f37A f37R (f37 n) :=
  pure_of (Γ := orc _ []) (an := f37An n) Try.func37 rfl (by kernel_rfl) tab_ok (orc_ok (all_nil)) mixed (plain_ok _ _ rfl) (fun x => by kernel_rfl)

/-- calender/calenderref08.Add -/

abbrev f35A : List Ty := [.slice S4, .str, .str]

abbrev f35R : List Ty := [.slice S4]

def f35 (n : Nat) (x : Dens f35A) : Option (Dens f35R) :=
  let t_0 : List (List UInt8 × List UInt8 × Unit) := x.1
  let name_1 : List UInt8 := x.2.1
  let data_2 : List UInt8 := x.2.2
  ob (f30 n (t_0, name_1)) fun y1 =>
  chk (decide (y1.1.length + data_2.length ≤ maxStr)) (
    ob (f37 n (t_0, name_1, y1.1 ++ data_2)) fun y2 =>
    some y2)

def f35An (n : Nat) : An (Dens f35R) := .nil

theorem f35_pure (n : Nat) : Pure Try.prog 35 f35A f35R (f35 n) :=
  pure_of (Γ := orc _ [(30, peOf f30A f30R (f30 n)), (37, peOf f37A f37R (f37 n))]) (an := f35An n) Try.func35 rfl (by kernel_rfl) tab_ok (orc_ok (all_cons (peOf_ok (f30_pure n)) (all_cons (peOf_ok (f37_pure n)) (all_nil)))) mixed (plain_ok _ _ rfl) (fun x => by kernel_rfl)

/-- calender/calenderref08.Same -/

abbrev f38A : List Ty := [.slice S4, .slice S4]

abbrev f38R : List Ty := [.bool]

def f38 (n : Nat) (x : Dens f38A) : Option (Dens f38R) :=
  let a_0 : List (List UInt8 × List UInt8 × Unit) := x.1
  let b_1 : List (List UInt8 × List UInt8 × Unit) := x.2
  br ((a_0.length : Int) != (b_1.length : Int)) (
    some false) (
    fix (fun g0 (x1 : List (List UInt8 × List UInt8 × Unit) × List (List UInt8 × List UInt8 × Unit) × Int × Unit) =>
      let a_2 : List (List UInt8 × List UInt8 × Unit) := x1.1
      let b_3 : List (List UInt8 × List UInt8 × Unit) := x1.2.1
      let i_4 : Int := x1.2.2.1
      br (decide (i_4 < (a_2.length : Int))) (
        chk (inB i_4 a_2.length) (
          let v5 : List UInt8 × List UInt8 × Unit := getAt (Ty.dflt S4) a_2 i_4
          chk (inB i_4 b_3.length) (
            let v6 : List UInt8 × List UInt8 × Unit := getAt (Ty.dflt S4) b_3 i_4
            br (!(Ty.beq S4 v5 v6)) (
              some false) (
              let v7 : Int := IntKind.wrap .i64 (i_4 + 1)
              g0 (a_2, b_3, v7, ()))))) (
        some true)) n (a_0, b_1, 0, ()))

def f38An (n : Nat) : An (Dens f38R) := (.mk .nil (.mk .nil (.mk (.mk .nil (.mk (.loop ⟨26, [⟨0, false, [.v (.slice S4)]⟩, ⟨1, false, [.v (.slice S4)]⟩, ⟨5, false, [.v (.int .i64)]⟩], []⟩ [.keep [true, true, false, false, false, true]] [.keep [true, true, false, false, false, true], .trunc 0] n .nil) .nil []) []) .nil []) []) [])

theorem f38_pure (n : Nat) : Pure Try.prog 38 f38A f38R (f38 n) :=
  pure_of (Γ := orc _ []) (an := f38An n) Try.func38 rfl (by kernel_rfl) tab_ok (orc_ok (all_nil)) mixed (plain_ok _ _ rfl) (fun x => by kernel_rfl)

/-- calender/calenderref08.SameLines -/

abbrev f39A : List Ty := [.slice S3, .slice S3]

abbrev f39R : List Ty := [.bool]

def f39 (n : Nat) (x : Dens f39A) : Option (Dens f39R) :=
  let a_0 : List (List UInt8 × Bool × Unit) := x.1
  let b_1 : List (List UInt8 × Bool × Unit) := x.2
  br ((a_0.length : Int) != (b_1.length : Int)) (
    some false) (
    fix (fun g0 (x1 : List (List UInt8 × Bool × Unit) × List (List UInt8 × Bool × Unit) × Int × Unit) =>
      let a_2 : List (List UInt8 × Bool × Unit) := x1.1
      let b_3 : List (List UInt8 × Bool × Unit) := x1.2.1
      let i_4 : Int := x1.2.2.1
      br (decide (i_4 < (a_2.length : Int))) (
        chk (inB i_4 a_2.length) (
          let v5 : List UInt8 × Bool × Unit := getAt (Ty.dflt S3) a_2 i_4
          chk (inB i_4 b_3.length) (
            let v6 : List UInt8 × Bool × Unit := getAt (Ty.dflt S3) b_3 i_4
            br (!(Ty.beq S3 v5 v6)) (
              some false) (
              let v7 : Int := IntKind.wrap .i64 (i_4 + 1)
              g0 (a_2, b_3, v7, ()))))) (
        some true)) n (a_0, b_1, 0, ()))

def f39An (n : Nat) : An (Dens f39R) := (.mk .nil (.mk .nil (.mk (.mk .nil (.mk (.loop ⟨26, [⟨0, false, [.v (.slice S3)]⟩, ⟨1, false, [.v (.slice S3)]⟩, ⟨5, false, [.v (.int .i64)]⟩], []⟩ [.keep [true, true, false, false, false, true]] [.keep [true, true, false, false, false, true], .trunc 0] n .nil) .nil []) []) .nil []) []) [])

theorem f39_pure (n : Nat) : Pure Try.prog 39 f39A f39R (f39 n) :=
  pure_of (Γ := orc _ []) (an := f39An n) Try.func39 rfl (by kernel_rfl) tab_ok (orc_ok (all_nil)) mixed (plain_ok _ _ rfl) (fun x => by kernel_rfl)

/-- calender/calenderlaw08.lines -/

abbrev f40A : List Ty := [.slice S3]

abbrev f40R : List Ty := [.slice S3]

def f40 (n : Nat) (x : Dens f40A) : Option (Dens f40R) :=
  let l_0 : List (List UInt8 × Bool × Unit) := x
  fix (fun g0 (x1 : List (List UInt8 × Bool × Unit) × Int × List (List UInt8 × Bool × Unit) × Unit) =>
    let l_2 : List (List UInt8 × Bool × Unit) := x1.1
    let i_3 : Int := x1.2.1
    let row4 : List (List UInt8 × Bool × Unit) := x1.2.2.1
    br (decide (i_3 < (l_2.length : Int))) (
      chk (inB i_3 l_2.length) (
        let v5 : List UInt8 × Bool × Unit := getAt (Ty.dflt S3) l_2 i_3
        chk (Nat.ble ((row4.length + ([v5] : List (List UInt8 × Bool × Unit)).length) * 24) room) (
          let v6 : Int := IntKind.wrap .i64 (i_3 + 1)
          g0 (l_2, v6, row4 ++ [v5], ())))) (
      some row4)) n (l_0, 0, [], ())

def f40An (n : Nat) : An (Dens f40R) := (.mk .nil (.mk .nil (.mk (.mk .nil (.mk (.loop ⟨20, [⟨0, false, [.v (.slice S3)]⟩, ⟨3, false, [.own 0]⟩, ⟨4, false, [.v (.int .i64)]⟩], [.row 31 S3]⟩ [.keep [true, false, false, true, true], .ver 0] [.keep [true, false, false, true, true], .ver 0, .trunc 1] n .nil) .nil []) []) .nil []) []) [])

theorem f40_pure (n : Nat) : Pure Try.prog 40 f40A f40R (f40 n) :=
  pure_of (Γ := orc _ []) (an := f40An n) Try.func40 rfl (by kernel_rfl) tab_ok (orc_ok (all_nil)) mixed (plain_ok _ _ rfl) (fun x => by kernel_rfl)

/-- calender/calenderref08.Split -/

abbrev f41A : List Ty := [.str]

abbrev f41R : List Ty := [.slice S3]

def f41 (n : Nat) (x : Dens f41A) : Option (Dens f41R) :=
  let s_0 : List UInt8 := x
  fix (fun g0 (x1 : List UInt8 × List UInt8 × Int × List (List UInt8 × Bool × Unit) × Unit) =>
    let s_2 : List UInt8 := x1.1
    let w_3 : List UInt8 := x1.2.1
    let i_4 : Int := x1.2.2.1
    let row5 : List (List UInt8 × Bool × Unit) := x1.2.2.2.1
    br (decide (i_4 < (s_2.length : Int))) (
      chk (inB i_4 s_2.length) (
        let v6 : Int := ((getAt 0 s_2 i_4).toNat : Int)
        br (v6 == 10) (
          chk (Nat.ble ((row5.length + ([(w_3, (true, ()))] : List (List UInt8 × Bool × Unit)).length) * 24) room) (
            let r7 : List (List UInt8 × Bool × Unit) := row5 ++ [(w_3, (true, ()))]
            let v8 : Int := IntKind.wrap .i64 (i_4 + 1)
            g0 (s_2, [], v8, r7, ()))) (
          let v9 : Int := IntKind.wrap .i64 (i_4 + 1)
          chk ((decide (0 ≤ v9) && decide (v9 ≤ (s_2.length : Int)) && (decide (0 ≤ i_4) && decide (i_4 ≤ v9)))) (
            let v10 : List UInt8 := (s_2.take v9.toNat).drop i_4.toNat
            chk (decide (w_3.length + v10.length ≤ maxStr)) (
              let v11 : Int := IntKind.wrap .i64 (i_4 + 1)
              g0 (s_2, w_3 ++ v10, v11, row5, ())))))) (
      br (!(w_3 == [])) (
        chk (Nat.ble ((row5.length + ([(w_3, (false, ()))] : List (List UInt8 × Bool × Unit)).length) * 24) room) (
          let r12 : List (List UInt8 × Bool × Unit) := row5 ++ [(w_3, (false, ()))]
          some r12)) (
        some row5))) n (s_0, [], 0, [], ())

def f41An (n : Nat) : An (Dens f41R) := (.mk .nil (.mk .nil (.mk .nil (.mk (.mk .nil (.mk (.loop ⟨37, [⟨0, false, [.v .str]⟩, ⟨3, false, [.own 0]⟩, ⟨4, false, [.v .str]⟩, ⟨5, false, [.v (.int .i64)]⟩], [.row 31 S3]⟩ [.keep [true, false, false, true, true, true], .ver 0] [.keep [true, false, false, true, true, true], .ver 0, .trunc 1] n .nil) .nil []) []) .nil []) []) []) [])

theorem f41_pure (n : Nat) : Pure Try.prog 41 f41A f41R (f41 n) :=
  pure_of (Γ := orc _ []) (an := f41An n) Try.func41 rfl (by kernel_rfl) tab_ok (orc_ok (all_nil)) mixed (plain_ok _ _ rfl) (fun x => by kernel_rfl)

/-- calender/calenderref08.Join -/

abbrev f43A : List Ty := [.slice S3]

abbrev f43R : List Ty := [.str]

def f43 (n : Nat) (x : Dens f43A) : Option (Dens f43R) :=
  let l_0 : List (List UInt8 × Bool × Unit) := x
  fix (fun g0 (x1 : List (List UInt8 × Bool × Unit) × List UInt8 × Int × Unit) =>
    let l_2 : List (List UInt8 × Bool × Unit) := x1.1
    let s_3 : List UInt8 := x1.2.1
    let i_4 : Int := x1.2.2.1
    br (decide (i_4 < (l_2.length : Int))) (
      chk (inB i_4 l_2.length) (
        let v5 : List UInt8 × Bool × Unit := getAt (Ty.dflt S3) l_2 i_4
        chk (decide (s_3.length + v5.1.length ≤ maxStr)) (
          chk (inB i_4 l_2.length) (
            let v6 : List UInt8 × Bool × Unit := getAt (Ty.dflt S3) l_2 i_4
            br v6.2.1 (
              chk (decide ((s_3 ++ v5.1).length + ([10] : List UInt8).length ≤ maxStr)) (
                let v7 : Int := IntKind.wrap .i64 (i_4 + 1)
                g0 (l_2, (s_3 ++ v5.1) ++ [10], v7, ()))) (
              let v8 : Int := IntKind.wrap .i64 (i_4 + 1)
              g0 (l_2, s_3 ++ v5.1, v8, ())))))) (
      some s_3)) n (l_0, [], 0, ())

def f43An (n : Nat) : An (Dens f43R) := (.mk .nil (.mk .nil (.mk (.mk .nil (.mk (.loop ⟨26, [⟨0, false, [.v (.slice S3)]⟩, ⟨3, false, [.v .str]⟩, ⟨4, false, [.v (.int .i64)]⟩], []⟩ [.keep [true, false, false, true, true]] [.keep [true, false, false, true, true], .trunc 0] n .nil) .nil []) []) .nil []) []) [])

theorem f43_pure (n : Nat) : Pure Try.prog 43 f43A f43R (f43 n) :=
  pure_of (Γ := orc _ []) (an := f43An n) Try.func43 rfl (by kernel_rfl) tab_ok (orc_ok (all_nil)) mixed (plain_ok _ _ rfl) (fun x => by kernel_rfl)

/-- calender/calenderref18.Take -/

abbrev f16A : List Ty := [S2]

abbrev f16R : List Ty := [S2, S3, .bool, .bool]

def f16 (n : Nat) (x : Dens f16A) : Option (Dens f16R) :=
  let k_0 : List UInt8 × Bool × Bool × Unit := x
  ob (f41 n k_0.1) fun y1 =>
  br ((y1.length : Int) == 0) (
    some (k_0, ([], (false, ())), false, false)) (
    br ((y1.length : Int) == 1) (
      br (!k_0.2.2.1) (
        some (k_0, ([], (false, ())), false, false)) (
        chk ((decide (0 ≤ (1 : Int)) && decide ((1 : Int) ≤ (y1.length : Int)))) (
          ob (f43 n (y1.drop (1 : Int).toNat)) fun y2 =>
          chk (inB 0 y1.length) (
            let v3 : List UInt8 × Bool × Unit := getAt (Ty.dflt S3) y1 0
            some ((y2, k_0.2), v3, ((y1.length : Int) == 1), true))))) (
      chk ((decide (0 ≤ (1 : Int)) && decide ((1 : Int) ≤ (y1.length : Int)))) (
        ob (f43 n (y1.drop (1 : Int).toNat)) fun y4 =>
        chk (inB 0 y1.length) (
          let v5 : List UInt8 × Bool × Unit := getAt (Ty.dflt S3) y1 0
          some ((y4, k_0.2), v5, ((y1.length : Int) == 1), true)))))

def f16An (n : Nat) : An (Dens f16R) := .nil

theorem f16_pure (n : Nat) : Pure Try.prog 16 f16A f16R (f16 n) :=
  pure_of (Γ := orc _ [(41, peOf f41A f41R (f41 n)), (43, peOf f43A f43R (f43 n))]) (an := f16An n) Try.func16 rfl (by kernel_rfl) tab_ok (orc_ok (all_cons (peOf_ok (f41_pure n)) (all_cons (peOf_ok (f43_pure n)) (all_nil)))) mixed (plain_ok _ _ rfl) (fun x => by kernel_rfl)

/-- calender/link.Take -/

abbrev f15A : List Ty := [S2]

abbrev f15R : List Ty := [S2, S3, .bool, .bool]

def f15 (n : Nat) (x : Dens f15A) : Option (Dens f15R) :=
  let k_0 : List UInt8 × Bool × Bool × Unit := x
  ob (f44 n (k_0.1, [10])) fun y1 =>
  br (y1.2.1 == []) (
    br (!k_0.2.2.1) (
      some (k_0, ([], (false, ())), false, false)) (
      br (k_0.1 == []) (
        some (k_0, ([], (false, ())), false, false)) (
        some ((y1.2.1, k_0.2), (y1.1, (y1.2.2, ())), (y1.2.1 == []), true)))) (
    br (k_0.1 == []) (
      some (k_0, ([], (false, ())), false, false)) (
      some ((y1.2.1, k_0.2), (y1.1, (y1.2.2, ())), (y1.2.1 == []), true)))

def f15An (n : Nat) : An (Dens f15R) := (.mk .nil (.scope 0 .nil .nil) [])

theorem f15_pure (n : Nat) : Pure Try.prog 15 f15A f15R (f15 n) :=
  pure_of (Γ := orc _ [(44, peOf f44A f44R (f44 n))]) (an := f15An n) Try.func15 rfl (by kernel_rfl) tab_ok (orc_ok (all_cons (peOf_ok (f44_pure n)) (all_nil))) mixed (plain_ok _ _ rfl) (fun x => by kernel_rfl)

/-- calender/link.Known -/

abbrev f18A : List Ty := [S2]

abbrev f18R : List Ty := [S3, .bool, .bool]

def f18 (n : Nat) (x : Dens f18A) : Option (Dens f18R) :=
  let k_0 : List UInt8 × Bool × Bool × Unit := x
  ob (f15 n k_0) fun y1 =>
  some (y1.2.1, y1.2.2.1, y1.2.2.2)

def f18An (n : Nat) : An (Dens f18R) := .nil

theorem f18_pure (n : Nat) : Pure Try.prog 18 f18A f18R (f18 n) :=
  pure_of (Γ := orc _ [(15, peOf f15A f15R (f15 n))]) (an := f18An n) Try.func18 rfl (by kernel_rfl) tab_ok (orc_ok (all_cons (peOf_ok (f15_pure n)) (all_nil))) mixed (plain_ok _ _ rfl) (fun x => by kernel_rfl)

/-- calender/calenderlaw18.shown -/

abbrev f14A : List Ty := []

abbrev f14R : List Ty := [.bool]

def f14 (n : Nat) (x : Dens f14A) : Option (Dens f14R) :=
  ob (f19 n (([], (false, (false, ()))), ([97], (true, ())))) fun y1 =>
  ob (f18 n y1) fun y2 =>
  ob (f19 n (y1, ([98], (false, ())))) fun y3 =>
  ob (f15 n y3) fun y4 =>
  ob (f21 n y4.1) fun y5 =>
  ob (f18 n y5) fun y6 =>
  br (!y2.2.2) (
    br y4.2.2.2 (
      br (!y4.2.2.1) (
        br (y4.2.1.1 == [97]) (
          br y6.2.2 (
            br y6.2.1 (
              br (y6.1.1 == [98]) (
                br (!y6.1.2.1) (
                  ob (f23 n y4.1) fun y7 =>
                  some (!y7)) (
                  some false)) (
                some false)) (
              some false)) (
            some false)) (
          some false)) (
        some false)) (
      some false)) (
    some false)

def f14An (n : Nat) : An (Dens f14R) := .nil

theorem f14_pure (n : Nat) : Pure Try.prog 14 f14A f14R (f14 n) :=
  pure_of (Γ := orc _ [(19, peOf f19A f19R (f19 n)), (18, peOf f18A f18R (f18 n)), (15, peOf f15A f15R (f15 n)), (21, peOf f21A f21R (f21 n)), (23, peOf f23A f23R (f23 n))]) (an := f14An n) Try.func14 rfl (by kernel_rfl) tab_ok (orc_ok (all_cons (peOf_ok (f19_pure n)) (all_cons (peOf_ok (f18_pure n)) (all_cons (peOf_ok (f15_pure n)) (all_cons (peOf_ok (f21_pure n)) (all_cons (peOf_ok (f23_pure n)) (all_nil))))))) mixed (plain_ok _ _ rfl) (fun x => by kernel_rfl)

/-- calender/calenderlaw18.LinkTells -/

abbrev f3A : List Ty := [S2, S3]

abbrev f3R : List Ty := [.bool]

def f3 (n : Nat) (x : Dens f3A) : Option (Dens f3R) :=
  let k_0 : List UInt8 × Bool × Bool × Unit := x.1
  let e_1 : List UInt8 × Bool × Unit := x.2
  br (decide ((k_0.1.length : Int) > 300)) (
    ob (f14 n ()) fun y1 =>
    some y1) (
    br (decide ((e_1.1.length : Int) > 300)) (
      ob (f14 n ()) fun y2 =>
      some y2) (
      ob (f14 n ()) fun y3 =>
      br (!y3) (
        ob (f14 n ()) fun y4 =>
        some y4) (
        ob (f15 n k_0) fun y5 =>
        ob (f17 n k_0) fun y6 =>
        ob (f16 n y6) fun y7 =>
        ob (f18 n k_0) fun y8 =>
        ob (f17 n y5.1) fun y9 =>
        br (Ty.beq S2 y9 y7.1) (
          br (Ty.beq S3 y5.2.1 y7.2.1) (
            br (y5.2.2.1 == y7.2.2.1) (
              br (y5.2.2.2 == y7.2.2.2) (
                br (Ty.beq S3 y8.1 y5.2.1) (
                  br (y8.2.1 == y5.2.2.1) (
                    br (y8.2.2 == y5.2.2.2) (
                      ob (f19 n (k_0, e_1)) fun y10 =>
                      ob (f17 n y10) fun y11 =>
                      ob (f17 n k_0) fun y12 =>
                      ob (f20 n (y12, e_1)) fun y13 =>
                      br (Ty.beq S2 y11 y13) (
                        ob (f21 n k_0) fun y14 =>
                        ob (f17 n y14) fun y15 =>
                        ob (f17 n k_0) fun y16 =>
                        ob (f22 n y16) fun y17 =>
                        br (Ty.beq S2 y15 y17) (
                          ob (f23 n k_0) fun y18 =>
                          ob (f17 n k_0) fun y19 =>
                          ob (f24 n y19) fun y20 =>
                          some (y18 == y20)) (
                          some false)) (
                        some false)) (
                      some false)) (
                    some false)) (
                  some false)) (
                some false)) (
              some false)) (
            some false)) (
          some false))))

def f3An (n : Nat) : An (Dens f3R) := .nil

theorem f3_pure (n : Nat) : Pure Try.prog 3 f3A f3R (f3 n) :=
  pure_of (Γ := orc _ [(14, peOf f14A f14R (f14 n)), (15, peOf f15A f15R (f15 n)), (17, peOf f17A f17R (f17 n)), (16, peOf f16A f16R (f16 n)), (18, peOf f18A f18R (f18 n)), (19, peOf f19A f19R (f19 n)), (20, peOf f20A f20R (f20 n)), (21, peOf f21A f21R (f21 n)), (22, peOf f22A f22R (f22 n)), (23, peOf f23A f23R (f23 n)), (24, peOf f24A f24R (f24 n))]) (an := f3An n) Try.func3 rfl (by kernel_rfl) tab_ok (orc_ok (all_cons (peOf_ok (f14_pure n)) (all_cons (peOf_ok (f15_pure n)) (all_cons (peOf_ok (f17_pure n)) (all_cons (peOf_ok (f16_pure n)) (all_cons (peOf_ok (f18_pure n)) (all_cons (peOf_ok (f19_pure n)) (all_cons (peOf_ok (f20_pure n)) (all_cons (peOf_ok (f21_pure n)) (all_cons (peOf_ok (f22_pure n)) (all_cons (peOf_ok (f23_pure n)) (all_cons (peOf_ok (f24_pure n)) (all_nil))))))))))))) mixed (plain_ok _ _ rfl) (fun x => by kernel_rfl)

/-- calender/calenderlaw18.LinkTakes -/

abbrev f4A : List Ty := [S2]

abbrev f4R : List Ty := [.bool]

def f4 (n : Nat) (x : Dens f4A) : Option (Dens f4R) :=
  let k_0 : List UInt8 × Bool × Bool × Unit := x
  br (decide ((k_0.1.length : Int) > 300)) (
    ob (f14 n ()) fun y1 =>
    some y1) (
    ob (f14 n ()) fun y2 =>
    br (!y2) (
      ob (f14 n ()) fun y3 =>
      some y3) (
      ob (f15 n k_0) fun y4 =>
      br (!y4.2.2.2) (
        br (Ty.beq S2 y4.1 k_0) (
          br (Ty.beq S3 y4.2.1 ([], (false, ()))) (
            some (!y4.2.2.1)) (
            some false)) (
          some false)) (
        br y4.2.1.2.1 (
          chk (decide (y4.2.1.1.length + ([10] : List UInt8).length ≤ maxStr)) (
            chk (decide ((y4.2.1.1 ++ [10]).length + y4.1.1.length ≤ maxStr)) (
              let v5 : List UInt8 := (y4.2.1.1 ++ [10]) ++ y4.1.1
              br (v5 == k_0.1) (
                br (y4.1.2.1 == k_0.2.1) (
                  br (y4.1.2.2.1 == k_0.2.2.1) (
                    br (y4.2.2.1 == (y4.1.1 == [])) (
                      br y4.2.1.2.1 (
                        some true) (
                        some y4.2.2.1)) (
                      some false)) (
                    some false)) (
                  some false)) (
                some false)))) (
          chk (decide (y4.2.1.1.length + y4.1.1.length ≤ maxStr)) (
            br ((y4.2.1.1 ++ y4.1.1) == k_0.1) (
              br (y4.1.2.1 == k_0.2.1) (
                br (y4.1.2.2.1 == k_0.2.2.1) (
                  br (y4.2.2.1 == (y4.1.1 == [])) (
                    br y4.2.1.2.1 (
                      some true) (
                      some y4.2.2.1)) (
                    some false)) (
                  some false)) (
                some false)) (
              some false))))))

def f4An (n : Nat) : An (Dens f4R) := .nil

theorem f4_pure (n : Nat) : Pure Try.prog 4 f4A f4R (f4 n) :=
  pure_of (Γ := orc _ [(14, peOf f14A f14R (f14 n)), (15, peOf f15A f15R (f15 n))]) (an := f4An n) Try.func4 rfl (by kernel_rfl) tab_ok (orc_ok (all_cons (peOf_ok (f14_pure n)) (all_cons (peOf_ok (f15_pure n)) (all_nil)))) mixed (plain_ok _ _ rfl) (fun x => by kernel_rfl)

end Go.Dec
