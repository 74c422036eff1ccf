/- Part of a proof over this seat: a library of my own, and what it says of this seat. No statement is proved here. -/
import Derived.Test.YtmpoakdpdflfgaaGreatDoorSwAJ
import Derived.Test.YtmpoakdpdflfgaaGreatDoorSwBJ
import Derived.Test.YtmpoakdpdflfgaaGreatDoorSwBO
namespace Go.Dec
noncomputable section
set_option linter.unusedVariables false
abbrev TSiA4wiiiiiE:Ty:=.pair (.int .i64) (.pair (.arr 4 (.int .u64)) (.pair (.int .i64) (.pair (.int .i64) (.pair (.int .i64) (.pair (.int .i64) (.pair (.int .i64) .unit))))))
abbrev TSLSiA4wiiiiiEbE:Ty:=.pair (.slice TSiA4wiiiiiE) (.pair .bool .unit)
abbrev TSiiiE:Ty:=.pair (.int .i64) (.pair (.int .i64) (.pair (.int .i64) .unit))
abbrev TSSiiiESiiiEbE:Ty:=.pair TSiiiE (.pair TSiiiE (.pair .bool .unit))
abbrev TSsiE:Ty:=.pair .str (.pair (.int .i64) .unit)
abbrev TSSSiiiESiiiEbEcssiiiLSsiEbbE:Ty:=.pair TSSiiiESiiiEbE (.pair (.int .u8) (.pair .str (.pair .str (.pair (.int .i64) (.pair (.int .i64) (.pair (.int .i64) (.pair (.slice TSsiE) (.pair .bool (.pair .bool .unit)))))))))
abbrev T3b3325d896:Ty:=.pair .bool (.pair (.slice TSLSiA4wiiiiiEbE) (.pair (.slice TSSSiiiESiiiEbEcssiiiLSsiEbbE) .unit))
abbrev T9f1898258b:Ty:=.pair T3b3325d896 (.pair .bool (.pair (.slice .str) (.pair .bool .unit)))
abbrev TSsbE:Ty:=.pair .str (.pair .bool .unit)
abbrev TSssE:Ty:=.pair .str (.pair .str .unit)
abbrev TSLSsbELSssEiiE:Ty:=.pair (.slice TSsbE) (.pair (.slice TSssE) (.pair (.int .i64) (.pair (.int .i64) .unit)))
abbrev TSbiE:Ty:=.pair .bool (.pair (.int .i64) .unit)
abbrev TSiiiiissbbbLSbiELSsbEE:Ty:=.pair (.int .i64) (.pair (.int .i64) (.pair (.int .i64) (.pair (.int .i64) (.pair (.int .i64) (.pair .str (.pair .str (.pair .bool (.pair .bool (.pair .bool (.pair (.slice TSbiE) (.pair (.slice TSsbE) .unit)))))))))))
abbrev Tef5273c4fb:Ty:=.pair TSiiiiissbbbLSbiELSsbEE (.pair T3b3325d896 (.pair .bool (.pair (.slice TSssE) (.pair (.slice TSsbE) .unit))))
abbrev TSibLbE:Ty:=.pair (.int .i64) (.pair .bool (.pair (.slice .bool) .unit))
abbrev NdT:Type:=Int × List (Int) × Int × Int × Int × Int × Int × Unit
def table_Get_1 (n : Nat) (x : List UInt8 × List UInt8 × List UInt8 × Unit) : Option (Bool × List UInt8 × Unit) :=
 let f_1 : List UInt8 := x.1
 let f_2 : List UInt8 := x.2.1
 let b3 : List UInt8 := x.2.2.1
 some ((f_1 == b3), b3, ())
def slices_IndexFunc_File__table_Get_1_loop0 (n : Nat) (g0 : List (List UInt8 × List UInt8 × Unit) × Int × Int × List UInt8 × Unit -> Option (Int × List UInt8 × Unit)) (x3 : List (List UInt8 × List UInt8 × Unit) × Int × Int × List UInt8 × Unit) : Option (Int × List UInt8 × Unit) :=
 let s_4 : List (List UInt8 × List UInt8 × Unit) := x3.1
 let t7_5 : Int := x3.2.1
 let t8_6 : Int := x3.2.2.1
 let b7 : List UInt8 := x3.2.2.2.1
 br (decide (t8_6 < t7_5)) (
  chk (inB t8_6 s_4.length) (
   let v8 : List UInt8 × List UInt8 × Unit := getAt (Ty.dflt TSssE) s_4 t8_6
   ob (table_Get_1 n (v8.1, v8.2.1, b7, ())) fun y9 =>
   br y9.1 (
    some (t8_6, y9.2.1, ())) (
    let v10 : Int := IntKind.wrap .i64 (t8_6 + 1)
    g0 (s_4, t7_5, v10, y9.2.1, ())))) (
  some ((-1), b7, ()))
def slices_IndexFunc_File__table_Get_1 (n : Nat) (x : List (List UInt8 × List UInt8 × Unit) × List UInt8 × Unit) : Option (Int × List UInt8 × Unit) :=
 let s_1 : List (List UInt8 × List UInt8 × Unit) := x.1
 let b2 : List UInt8 := x.2.1
 fix (slices_IndexFunc_File__table_Get_1_loop0 n) n (s_1, (s_1.length : Int), 0, b2, ())
def table_Get (n : Nat) (x : List (List UInt8 × List UInt8 × Unit) × List UInt8) : Option (List UInt8 × Bool) :=
 let t_0 : List (List UInt8 × List UInt8 × Unit) := x.1
 let file_1 : List UInt8 := x.2
 ob (slices_IndexFunc_File__table_Get_1 n (t_0, file_1, ())) fun y1 =>
 br (decide (y1.1 < 0)) (
  some ([], false)) (
  chk (inB y1.1 t_0.length) (
   let v2 : List UInt8 × List UInt8 × Unit := getAt (Ty.dflt TSssE) t_0 y1.1
   some (v2.2.1, true)))
def stage_Lines_loop1 (n : Nat) (g1 : Int × Int × Int × List (List UInt8 × Bool × Unit) × Unit -> Option (List (List UInt8 × Bool × Unit) × Int)) (x18 : Int × Int × Int × List (List UInt8 × Bool × Unit) × Unit) : Option (List (List UInt8 × Bool × Unit) × Int) :=
 let status_19 : Int := x18.1
 let t46_20 : Int := x18.2.1
 let t47_21 : Int := x18.2.2.1
 let row22 : List (List UInt8 × Bool × Unit) := x18.2.2.2.1
 br (decide (t47_21 < t46_20)) (
  chk ((inB t47_21 (row22.length) && decide (0 + (row22.length) <= row22.length))) (
   chk (decide (0 + t47_21.toNat < row22.length)) (
    let r23 : List (List UInt8 × Bool × Unit) := row22.set (0 + t47_21.toNat) ((row22.getD (0 + t47_21.toNat) (Ty.dflt TSsbE)).1, (true, ()))
    let v24 : Int := IntKind.wrap .i64 (t47_21 + 1)
    g1 (status_19, t46_20, v24, r23, ())))) (
  some (row22, status_19))
def stage_Lines_loop0 (n : Nat) (g0 : List (List UInt8 × List UInt8 × Unit) × Int × List (List UInt8) × Int × Int × List (List UInt8 × Bool × Unit) × Unit -> Option (List (List UInt8 × Bool × Unit) × Int)) (x2 : List (List UInt8 × List UInt8 × Unit) × Int × List (List UInt8) × Int × Int × List (List UInt8 × Bool × Unit) × Unit) : Option (List (List UInt8 × Bool × Unit) × Int) :=
 let t_3 : List (List UInt8 × List UInt8 × Unit) := x2.1
 let status_4 : Int := x2.2.1
 let t24_5 : List (List UInt8) := x2.2.2.1
 let t25_6 : Int := x2.2.2.2.1
 let t26_7 : Int := x2.2.2.2.2.1
 let row8 : List (List UInt8 × Bool × Unit) := x2.2.2.2.2.2.1
 br (decide (t26_7 < t25_6)) (
  chk (inB t26_7 t24_5.length) (
   let v9 : List UInt8 := getAt (Ty.dflt .str) t24_5 t26_7
   ob (table_Get n (t_3, v9)) fun y10 =>
   br (!y10.2) (
    ob (table_SplitO n (y10.1, ())) fun y11 =>
    chk (Nat.ble ((row8.length + y11.1.length) * 24) room) (
     let v12 : Int := IntKind.wrap .i64 (t26_7 + 1)
     g0 (t_3, 2, t24_5, t25_6, v12, row8 ++ y11.1, ()))) (
    ob (table_SplitO n (y10.1, ())) fun y13 =>
    chk (Nat.ble ((row8.length + y13.1.length) * 24) room) (
     let v14 : Int := IntKind.wrap .i64 (t26_7 + 1)
     g0 (t_3, status_4, t24_5, t25_6, v14, row8 ++ y13.1, ()))))) (
  let v15 : Int := ((row8.length : Nat) : Int)
  let v16 : Int := IntKind.wrap .i64 (v15 - 1)
  let v17 : Int := if v16 > 0 then v16 else 0
  fix (stage_Lines_loop1 n) n (status_4, v17, 0, row8, ()))
def stage_Lines_loop1b (n : Nat) (g1 : Int × Int × Int × List (List UInt8 × Bool × Unit) × Unit -> Option (List (List UInt8 × Bool × Unit) × Int)) (x41 : Int × Int × Int × List (List UInt8 × Bool × Unit) × Unit) : Option (List (List UInt8 × Bool × Unit) × Int) :=
 let status_42 : Int := x41.1
 let t46_43 : Int := x41.2.1
 let t47_44 : Int := x41.2.2.1
 let row45 : List (List UInt8 × Bool × Unit) := x41.2.2.2.1
 br (decide (t47_44 < t46_43)) (
  chk ((inB t47_44 (row45.length) && decide (0 + (row45.length) <= row45.length))) (
   chk (decide (0 + t47_44.toNat < row45.length)) (
    let r46 : List (List UInt8 × Bool × Unit) := row45.set (0 + t47_44.toNat) ((row45.getD (0 + t47_44.toNat) (Ty.dflt TSsbE)).1, (true, ()))
    let v47 : Int := IntKind.wrap .i64 (t47_44 + 1)
    g1 (status_42, t46_43, v47, r46, ())))) (
  some (row45, status_42))
def stage_Lines_loop0b (n : Nat) (g0 : List (List UInt8 × List UInt8 × Unit) × Int × List (List UInt8) × Int × Int × List (List UInt8 × Bool × Unit) × Unit -> Option (List (List UInt8 × Bool × Unit) × Int)) (x25 : List (List UInt8 × List UInt8 × Unit) × Int × List (List UInt8) × Int × Int × List (List UInt8 × Bool × Unit) × Unit) : Option (List (List UInt8 × Bool × Unit) × Int) :=
 let t_26 : List (List UInt8 × List UInt8 × Unit) := x25.1
 let status_27 : Int := x25.2.1
 let t24_28 : List (List UInt8) := x25.2.2.1
 let t25_29 : Int := x25.2.2.2.1
 let t26_30 : Int := x25.2.2.2.2.1
 let row31 : List (List UInt8 × Bool × Unit) := x25.2.2.2.2.2.1
 br (decide (t26_30 < t25_29)) (
  chk (inB t26_30 t24_28.length) (
   let v32 : List UInt8 := getAt (Ty.dflt .str) t24_28 t26_30
   ob (table_Get n (t_26, v32)) fun y33 =>
   br (!y33.2) (
    ob (table_SplitO n (y33.1, ())) fun y34 =>
    chk (Nat.ble ((row31.length + y34.1.length) * 24) room) (
     let v35 : Int := IntKind.wrap .i64 (t26_30 + 1)
     g0 (t_26, 2, t24_28, t25_29, v35, row31 ++ y34.1, ()))) (
    ob (table_SplitO n (y33.1, ())) fun y36 =>
    chk (Nat.ble ((row31.length + y36.1.length) * 24) room) (
     let v37 : Int := IntKind.wrap .i64 (t26_30 + 1)
     g0 (t_26, status_27, t24_28, t25_29, v37, row31 ++ y36.1, ()))))) (
  let v38 : Int := ((row31.length : Nat) : Int)
  let v39 : Int := IntKind.wrap .i64 (v38 - 1)
  let v40 : Int := if v39 > 0 then v39 else 0
  fix (stage_Lines_loop1b n) n (status_27, v40, 0, row31, ()))
def stage_Lines (n : Nat) (x : ((Bool × List (List (NdT) × Bool × Unit) × List (((Int × Int × Int × Unit) × (Int × Int × Int × Unit) × Bool × Unit) × Int × List UInt8 × List UInt8 × Int × Int × Int × List (List UInt8 × Int × Unit) × Bool × Bool × Unit) × Unit) × Bool × List (List UInt8) × Bool × Unit) × List UInt8 × List (List UInt8 × List UInt8 × Unit)) : Option (List (List UInt8 × Bool × Unit) × Int) :=
 let g_0 : (Bool × List (List (NdT) × Bool × Unit) × List (((Int × Int × Int × Unit) × (Int × Int × Int × Unit) × Bool × Unit) × Int × List UInt8 × List UInt8 × Int × Int × Int × List (List UInt8 × Int × Unit) × Bool × Bool × Unit) × Unit) × Bool × List (List UInt8) × Bool × Unit := x.1
 let t1_1 : List UInt8 := x.2.1
 let t_2 : List (List UInt8 × List UInt8 × Unit) := x.2.2
 br g_0.2.2.2.1 (
  some ([], 0)) (
  br ((g_0.2.2.1.length : Int) == 0) (
   ob (table_SplitO n (t1_1, ())) fun y1 =>
   fix (stage_Lines_loop0 n) n (t_2, 0, g_0.2.2.1, (g_0.2.2.1.length : Int), 0, y1.1, ())) (
   fix (stage_Lines_loop0b n) n (t_2, 0, g_0.2.2.1, (g_0.2.2.1.length : Int), 0, [], ())))
def bank_New (n : Nat) (x : Bool × List (List (NdT) × Bool × Unit) × List (((Int × Int × Int × Unit) × (Int × Int × Int × Unit) × Bool × Unit) × Int × List UInt8 × List UInt8 × Int × Int × Int × List (List UInt8 × Int × Unit) × Bool × Bool × Unit) × Unit) : Option (Int × Int × Int × Int × Int × List UInt8 × List UInt8 × Bool × Bool × Bool × List (Bool × Int × Unit) × List (List UInt8 × Bool × Unit) × Unit) :=
 let x_0 : Bool × List (List (NdT) × Bool × Unit) × List (((Int × Int × Int × Unit) × (Int × Int × Int × Unit) × Bool × Unit) × Int × List UInt8 × List UInt8 × Int × Int × Int × List (List UInt8 × Int × Unit) × Bool × Bool × Unit) × Unit := x
 chk ((decide (0 <= (x_0.2.2.1.length : Int)) && (decide ((x_0.2.2.1.length : Int) = (x_0.2.2.1.length : Int)) && Nat.ble ((x_0.2.2.1.length : Int).toNat * 16) room))) (
  let r1 : List (Bool × Int × Unit) := List.replicate (x_0.2.2.1.length : Int).toNat (false, (0, ()))
  some (0, (0, (0, (0, ((-1), ([], ([], (false, (false, (false, (r1, ([], ())))))))))))))
def bank_Close (n : Nat) (x : Int × Int × Int × Int × Int × List UInt8 × List UInt8 × Bool × Bool × Bool × List (Bool × Int × Unit) × List (List UInt8 × Bool × Unit) × Unit) : Option (Int × Int × Int × Int × Int × List UInt8 × List UInt8 × Bool × Bool × Bool × List (Bool × Int × Unit) × List (List UInt8 × Bool × Unit) × Unit) :=
 let b_0 : Int × Int × Int × Int × Int × List UInt8 × List UInt8 × Bool × Bool × Bool × List (Bool × Int × Unit) × List (List UInt8 × Bool × Unit) × Unit := x
 br (b_0.1 == 0) (
  some (4, b_0.2)) (
  some b_0)
def bank_Give (n : Nat) (x : (Int × Int × Int × Int × Int × List UInt8 × List UInt8 × Bool × Bool × Bool × List (Bool × Int × Unit) × List (List UInt8 × Bool × Unit) × Unit) × (List UInt8 × Bool × Unit) × Bool) : Option (Int × Int × Int × Int × Int × List UInt8 × List UInt8 × Bool × Bool × Bool × List (Bool × Int × Unit) × List (List UInt8 × Bool × Unit) × Unit) :=
 let b_0 : Int × Int × Int × Int × Int × List UInt8 × List UInt8 × Bool × Bool × Bool × List (Bool × Int × Unit) × List (List UInt8 × Bool × Unit) × Unit := x.1
 let l_1 : List UInt8 × Bool × Unit := x.2.1
 let last_2 : Bool := x.2.2
 br (b_0.1 == 0) (
  let v1 : Int := IntKind.wrap .i64 (b_0.2.2.1 + 1)
  some (1, (0, (v1, (b_0.2.2.2.1, (b_0.2.2.2.2.1, (l_1.1, (b_0.2.2.2.2.2.2.1, (l_1.2.1, (last_2, b_0.2.2.2.2.2.2.2.2.2)))))))))) (
  br (b_0.1 == 2) (
   let v2 : Int := IntKind.wrap .i64 (b_0.2.1 + 1)
   let v3 : Int := IntKind.wrap .i64 (b_0.2.2.1 + 1)
   some (1, (v2, (v3, (b_0.2.2.2.1, (b_0.2.2.2.2.1, (l_1.1, (b_0.2.2.2.2.2.2.1, (l_1.2.1, (last_2, b_0.2.2.2.2.2.2.2.2.2)))))))))) (
   br (b_0.1 == 3) (
    let v4 : Int := IntKind.wrap .i64 (b_0.2.1 + 1)
    chk (decide (b_0.2.2.2.2.2.1.length + ([10] : List UInt8).length <= maxStr)) (
     chk (decide ((b_0.2.2.2.2.2.1 ++ [10]).length + l_1.1.length <= maxStr)) (
      let v5 : List UInt8 := (b_0.2.2.2.2.2.1 ++ [10]) ++ l_1.1
      let v6 : Int := IntKind.wrap .i64 (b_0.2.2.1 + 1)
      some (1, (v4, (v6, (b_0.2.2.2.1, (b_0.2.2.2.2.1, (v5, (b_0.2.2.2.2.2.2.1, (l_1.2.1, (last_2, b_0.2.2.2.2.2.2.2.2.2)))))))))))) (
    some b_0)))
def bank_turn_put (n : Nat) (x : List UInt8 × Bool × Int × Int × Int × Int × Int × List UInt8 × List UInt8 × Bool × Bool × Bool × List (Bool × Int × Unit) × List (List UInt8 × Bool × Unit) × Bool × List (List (NdT) × Bool × Unit) × List (((Int × Int × Int × Unit) × (Int × Int × Int × Unit) × Bool × Unit) × Int × List UInt8 × List UInt8 × Int × Int × Int × List (List UInt8 × Int × Unit) × Bool × Bool × Unit) × Bool × List (List UInt8 × List UInt8 × Unit) × List (List UInt8 × Bool × Unit) × Unit) : Option (Int × Int × Int × Int × Int × List UInt8 × List UInt8 × Bool × Bool × Bool × List (Bool × Int × Unit) × List (List UInt8 × Bool × Unit) × Bool × List (List (NdT) × Bool × Unit) × List (((Int × Int × Int × Unit) × (Int × Int × Int × Unit) × Bool × Unit) × Int × List UInt8 × List UInt8 × Int × Int × Int × List (List UInt8 × Int × Unit) × Bool × Bool × Unit) × Bool × List (List UInt8 × List UInt8 × Unit) × List (List UInt8 × Bool × Unit) × Unit) :=
 let s_1 : List UInt8 := x.1
 let t2_2 : Bool := x.2.1
 let Phase3 : Int := x.2.2.1
 let PC4 : Int := x.2.2.2.1
 let N5 : Int := x.2.2.2.2.1
 let Code6 : Int := x.2.2.2.2.2.1
 let Used7 : Int := x.2.2.2.2.2.2.1
 let Pattern8 : List UInt8 := x.2.2.2.2.2.2.2.1
 let Hold9 : List UInt8 := x.2.2.2.2.2.2.2.2.1
 let End10 : Bool := x.2.2.2.2.2.2.2.2.2.1
 let Last11 : Bool := x.2.2.2.2.2.2.2.2.2.2.1
 let Changed12 : Bool := x.2.2.2.2.2.2.2.2.2.2.2.1
 let Ranges13 : List (Bool × Int × Unit) := x.2.2.2.2.2.2.2.2.2.2.2.2.1
 let Queue14 : List (List UInt8 × Bool × Unit) := x.2.2.2.2.2.2.2.2.2.2.2.2.2.1
 let Quiet15 : Bool := x.2.2.2.2.2.2.2.2.2.2.2.2.2.2.1
 let Pats16 : List (List (NdT) × Bool × Unit) := x.2.2.2.2.2.2.2.2.2.2.2.2.2.2.2.1
 let Cmds17 : List (((Int × Int × Int × Unit) × (Int × Int × Int × Unit) × Bool × Unit) × Int × List UInt8 × List UInt8 × Int × Int × Int × List (List UInt8 × Int × Unit) × Bool × Bool × Unit) := x.2.2.2.2.2.2.2.2.2.2.2.2.2.2.2.2.1
 let quiet18 : Bool := x.2.2.2.2.2.2.2.2.2.2.2.2.2.2.2.2.2.1
 let files19 : List (List UInt8 × List UInt8 × Unit) := x.2.2.2.2.2.2.2.2.2.2.2.2.2.2.2.2.2.2.1
 let row20 : List (List UInt8 × Bool × Unit) := x.2.2.2.2.2.2.2.2.2.2.2.2.2.2.2.2.2.2.2.1
 chk (Nat.ble ((row20.length + ([(s_1, (t2_2, ()))] : List (List UInt8 × Bool × Unit)).length) * 24) room) (
  let r21 : List (List UInt8 × Bool × Unit) := row20 ++ [(s_1, (t2_2, ()))]
  some (Phase3, PC4, N5, Code6, Used7, Pattern8, Hold9, End10, Last11, Changed12, Ranges13, Queue14, Quiet15, Pats16, Cmds17, quiet18, files19, r21, ()))
def bank_turn_pattern (n : Nat) (x : Int × Int × Int × Int × Int × List UInt8 × List UInt8 × Bool × Bool × Bool × List (Bool × Int × Unit) × List (List UInt8 × Bool × Unit) × Bool × List (List (NdT) × Bool × Unit) × List (((Int × Int × Int × Unit) × (Int × Int × Int × Unit) × Bool × Unit) × Int × List UInt8 × List UInt8 × Int × Int × Int × List (List UInt8 × Int × Unit) × Bool × Bool × Unit) × Bool × List (List UInt8 × List UInt8 × Unit) × List (List UInt8 × Bool × Unit) × Unit) : Option (Int × Int × Int × Int × Int × List UInt8 × List UInt8 × Bool × Bool × Bool × List (Bool × Int × Unit) × List (List UInt8 × Bool × Unit) × Bool × List (List (NdT) × Bool × Unit) × List (((Int × Int × Int × Unit) × (Int × Int × Int × Unit) × Bool × Unit) × Int × List UInt8 × List UInt8 × Int × Int × Int × List (List UInt8 × Int × Unit) × Bool × Bool × Unit) × Bool × List (List UInt8 × List UInt8 × Unit) × List (List UInt8 × Bool × Unit) × Unit) :=
 let Phase1 : Int := x.1
 let PC2 : Int := x.2.1
 let N3 : Int := x.2.2.1
 let Code4 : Int := x.2.2.2.1
 let Used5 : Int := x.2.2.2.2.1
 let Pattern6 : List UInt8 := x.2.2.2.2.2.1
 let Hold7 : List UInt8 := x.2.2.2.2.2.2.1
 let End8 : Bool := x.2.2.2.2.2.2.2.1
 let Last9 : Bool := x.2.2.2.2.2.2.2.2.1
 let Changed10 : Bool := x.2.2.2.2.2.2.2.2.2.1
 let Ranges11 : List (Bool × Int × Unit) := x.2.2.2.2.2.2.2.2.2.2.1
 let Queue12 : List (List UInt8 × Bool × Unit) := x.2.2.2.2.2.2.2.2.2.2.2.1
 let Quiet13 : Bool := x.2.2.2.2.2.2.2.2.2.2.2.2.1
 let Pats14 : List (List (NdT) × Bool × Unit) := x.2.2.2.2.2.2.2.2.2.2.2.2.2.1
 let Cmds15 : List (((Int × Int × Int × Unit) × (Int × Int × Int × Unit) × Bool × Unit) × Int × List UInt8 × List UInt8 × Int × Int × Int × List (List UInt8 × Int × Unit) × Bool × Bool × Unit) := x.2.2.2.2.2.2.2.2.2.2.2.2.2.2.1
 let quiet16 : Bool := x.2.2.2.2.2.2.2.2.2.2.2.2.2.2.2.1
 let files17 : List (List UInt8 × List UInt8 × Unit) := x.2.2.2.2.2.2.2.2.2.2.2.2.2.2.2.2.1
 let row18 : List (List UInt8 × Bool × Unit) := x.2.2.2.2.2.2.2.2.2.2.2.2.2.2.2.2.2.1
 ob (bank_turn_put n (Pattern6, End8, Phase1, PC2, N3, Code4, Used5, Pattern6, Hold7, End8, Last9, Changed10, Ranges11, Queue12, Quiet13, Pats14, Cmds15, quiet16, files17, row18, ())) fun y19 =>
 some (y19.1, y19.2.1, y19.2.2.1, y19.2.2.2.1, y19.2.2.2.2.1, y19.2.2.2.2.2.1, y19.2.2.2.2.2.2.1, y19.2.2.2.2.2.2.2.1, y19.2.2.2.2.2.2.2.2.1, y19.2.2.2.2.2.2.2.2.2.1, y19.2.2.2.2.2.2.2.2.2.2.1, y19.2.2.2.2.2.2.2.2.2.2.2.1, y19.2.2.2.2.2.2.2.2.2.2.2.2.1, y19.2.2.2.2.2.2.2.2.2.2.2.2.2.1, y19.2.2.2.2.2.2.2.2.2.2.2.2.2.2.1, y19.2.2.2.2.2.2.2.2.2.2.2.2.2.2.2.1, y19.2.2.2.2.2.2.2.2.2.2.2.2.2.2.2.2.1, y19.2.2.2.2.2.2.2.2.2.2.2.2.2.2.2.2.2.1, ())
def bank_turn_print (n : Nat) (x : Int × Int × Int × Int × Int × List UInt8 × List UInt8 × Bool × Bool × Bool × List (Bool × Int × Unit) × List (List UInt8 × Bool × Unit) × Bool × List (List (NdT) × Bool × Unit) × List (((Int × Int × Int × Unit) × (Int × Int × Int × Unit) × Bool × Unit) × Int × List UInt8 × List UInt8 × Int × Int × Int × List (List UInt8 × Int × Unit) × Bool × Bool × Unit) × Bool × List (List UInt8 × List UInt8 × Unit) × List (List UInt8 × Bool × Unit) × Unit) : Option (Int × Int × Int × Int × Int × List UInt8 × List UInt8 × Bool × Bool × Bool × List (Bool × Int × Unit) × List (List UInt8 × Bool × Unit) × Bool × List (List (NdT) × Bool × Unit) × List (((Int × Int × Int × Unit) × (Int × Int × Int × Unit) × Bool × Unit) × Int × List UInt8 × List UInt8 × Int × Int × Int × List (List UInt8 × Int × Unit) × Bool × Bool × Unit) × Bool × List (List UInt8 × List UInt8 × Unit) × List (List UInt8 × Bool × Unit) × Unit) :=
 let Phase1 : Int := x.1
 let PC2 : Int := x.2.1
 let N3 : Int := x.2.2.1
 let Code4 : Int := x.2.2.2.1
 let Used5 : Int := x.2.2.2.2.1
 let Pattern6 : List UInt8 := x.2.2.2.2.2.1
 let Hold7 : List UInt8 := x.2.2.2.2.2.2.1
 let End8 : Bool := x.2.2.2.2.2.2.2.1
 let Last9 : Bool := x.2.2.2.2.2.2.2.2.1
 let Changed10 : Bool := x.2.2.2.2.2.2.2.2.2.1
 let Ranges11 : List (Bool × Int × Unit) := x.2.2.2.2.2.2.2.2.2.2.1
 let Queue12 : List (List UInt8 × Bool × Unit) := x.2.2.2.2.2.2.2.2.2.2.2.1
 let Quiet13 : Bool := x.2.2.2.2.2.2.2.2.2.2.2.2.1
 let Pats14 : List (List (NdT) × Bool × Unit) := x.2.2.2.2.2.2.2.2.2.2.2.2.2.1
 let Cmds15 : List (((Int × Int × Int × Unit) × (Int × Int × Int × Unit) × Bool × Unit) × Int × List UInt8 × List UInt8 × Int × Int × Int × List (List UInt8 × Int × Unit) × Bool × Bool × Unit) := x.2.2.2.2.2.2.2.2.2.2.2.2.2.2.1
 let quiet16 : Bool := x.2.2.2.2.2.2.2.2.2.2.2.2.2.2.2.1
 let files17 : List (List UInt8 × List UInt8 × Unit) := x.2.2.2.2.2.2.2.2.2.2.2.2.2.2.2.2.1
 let row18 : List (List UInt8 × Bool × Unit) := x.2.2.2.2.2.2.2.2.2.2.2.2.2.2.2.2.2.1
 br (!quiet16) (
  br (!Quiet13) (
   ob (bank_turn_pattern n (Phase1, PC2, N3, Code4, Used5, Pattern6, Hold7, End8, Last9, Changed10, Ranges11, Queue12, Quiet13, Pats14, Cmds15, quiet16, files17, row18, ())) fun y19 =>
   some (y19.1, y19.2.1, y19.2.2.1, y19.2.2.2.1, y19.2.2.2.2.1, y19.2.2.2.2.2.1, y19.2.2.2.2.2.2.1, y19.2.2.2.2.2.2.2.1, y19.2.2.2.2.2.2.2.2.1, y19.2.2.2.2.2.2.2.2.2.1, y19.2.2.2.2.2.2.2.2.2.2.1, y19.2.2.2.2.2.2.2.2.2.2.2.1, y19.2.2.2.2.2.2.2.2.2.2.2.2.1, y19.2.2.2.2.2.2.2.2.2.2.2.2.2.1, y19.2.2.2.2.2.2.2.2.2.2.2.2.2.2.1, y19.2.2.2.2.2.2.2.2.2.2.2.2.2.2.2.1, y19.2.2.2.2.2.2.2.2.2.2.2.2.2.2.2.2.1, y19.2.2.2.2.2.2.2.2.2.2.2.2.2.2.2.2.2.1, ())) (
   some (Phase1, PC2, N3, Code4, Used5, Pattern6, Hold7, End8, Last9, Changed10, Ranges11, Queue12, Quiet13, Pats14, Cmds15, quiet16, files17, row18, ()))) (
  some (Phase1, PC2, N3, Code4, Used5, Pattern6, Hold7, End8, Last9, Changed10, Ranges11, Queue12, Quiet13, Pats14, Cmds15, quiet16, files17, row18, ()))
def internal_stringslite_HasSuffix (n : Nat) (x : List UInt8 × List UInt8) : Option (Bool) :=
 let s_0 : List UInt8 := x.1
 let suffix_1 : List UInt8 := x.2
 br (decide ((s_0.length : Int) ≥ (suffix_1.length : Int))) (
  let v1 : Int := IntKind.wrap .i64 ((s_0.length : Int) - (suffix_1.length : Int))
  chk ((decide (0 <= v1) && decide (v1 <= (s_0.length : Int)))) (
   some ((s_0.drop v1.toNat) == suffix_1))) (
  some false)
def internal_stringslite_CutSuffix (n : Nat) (x : List UInt8 × List UInt8) : Option (List UInt8 × Bool) :=
 let s_0 : List UInt8 := x.1
 let suffix_1 : List UInt8 := x.2
 ob (internal_stringslite_HasSuffix n (s_0, suffix_1)) fun y1 =>
 br (!y1) (
  some (s_0, false)) (
  let v2 : Int := IntKind.wrap .i64 ((s_0.length : Int) - (suffix_1.length : Int))
  chk ((decide (0 <= v2) && decide (v2 <= (s_0.length : Int)))) (
   some (s_0.take v2.toNat, true)))
def strings_CutSuffix (n : Nat) (x : List UInt8 × List UInt8) : Option (List UInt8 × Bool) :=
 let s_0 : List UInt8 := x.1
 let suffix_1 : List UInt8 := x.2
 ob (internal_stringslite_CutSuffix n (s_0, suffix_1)) fun y1 =>
 some (y1.1, y1.2)
def bank_turn_flush_loop0 (n : Nat) (g0 : List (List UInt8 × Bool × Unit) × Int × Int × Int × Int × Int × Int × Int × List UInt8 × List UInt8 × Bool × Bool × Bool × List (Bool × Int × Unit) × List (List UInt8 × Bool × Unit) × Bool × List (List (NdT) × Bool × Unit) × List (((Int × Int × Int × Unit) × (Int × Int × Int × Unit) × Bool × Unit) × Int × List UInt8 × List UInt8 × Int × Int × Int × List (List UInt8 × Int × Unit) × Bool × Bool × Unit) × Bool × List (List UInt8 × List UInt8 × Unit) × List (List UInt8 × Bool × Unit) × Unit -> Option (Int × Int × Int × Int × Int × List UInt8 × List UInt8 × Bool × Bool × Bool × List (Bool × Int × Unit) × List (List UInt8 × Bool × Unit) × Bool × List (List (NdT) × Bool × Unit) × List (((Int × Int × Int × Unit) × (Int × Int × Int × Unit) × Bool × Unit) × Int × List UInt8 × List UInt8 × Int × Int × Int × List (List UInt8 × Int × Unit) × Bool × Bool × Unit) × Bool × List (List UInt8 × List UInt8 × Unit) × List (List UInt8 × Bool × Unit) × Unit)) (x19 : List (List UInt8 × Bool × Unit) × Int × Int × Int × Int × Int × Int × Int × List UInt8 × List UInt8 × Bool × Bool × Bool × List (Bool × Int × Unit) × List (List UInt8 × Bool × Unit) × Bool × List (List (NdT) × Bool × Unit) × List (((Int × Int × Int × Unit) × (Int × Int × Int × Unit) × Bool × Unit) × Int × List UInt8 × List UInt8 × Int × Int × Int × List (List UInt8 × Int × Unit) × Bool × Bool × Unit) × Bool × List (List UInt8 × List UInt8 × Unit) × List (List UInt8 × Bool × Unit) × Unit) : Option (Int × Int × Int × Int × Int × List UInt8 × List UInt8 × Bool × Bool × Bool × List (Bool × Int × Unit) × List (List UInt8 × Bool × Unit) × Bool × List (List (NdT) × Bool × Unit) × List (((Int × Int × Int × Unit) × (Int × Int × Int × Unit) × Bool × Unit) × Int × List UInt8 × List UInt8 × Int × Int × Int × List (List UInt8 × Int × Unit) × Bool × Bool × Unit) × Bool × List (List UInt8 × List UInt8 × Unit) × List (List UInt8 × Bool × Unit) × Unit) :=
 let t12_20 : List (List UInt8 × Bool × Unit) := x19.1
 let t13_21 : Int := x19.2.1
 let t14_22 : Int := x19.2.2.1
 let Phase23 : Int := x19.2.2.2.1
 let PC24 : Int := x19.2.2.2.2.1
 let N25 : Int := x19.2.2.2.2.2.1
 let Code26 : Int := x19.2.2.2.2.2.2.1
 let Used27 : Int := x19.2.2.2.2.2.2.2.1
 let Pattern28 : List UInt8 := x19.2.2.2.2.2.2.2.2.1
 let Hold29 : List UInt8 := x19.2.2.2.2.2.2.2.2.2.1
 let End30 : Bool := x19.2.2.2.2.2.2.2.2.2.2.1
 let Last31 : Bool := x19.2.2.2.2.2.2.2.2.2.2.2.1
 let Changed32 : Bool := x19.2.2.2.2.2.2.2.2.2.2.2.2.1
 let Ranges33 : List (Bool × Int × Unit) := x19.2.2.2.2.2.2.2.2.2.2.2.2.2.1
 let Queue34 : List (List UInt8 × Bool × Unit) := x19.2.2.2.2.2.2.2.2.2.2.2.2.2.2.1
 let Quiet35 : Bool := x19.2.2.2.2.2.2.2.2.2.2.2.2.2.2.2.1
 let Pats36 : List (List (NdT) × Bool × Unit) := x19.2.2.2.2.2.2.2.2.2.2.2.2.2.2.2.2.1
 let Cmds37 : List (((Int × Int × Int × Unit) × (Int × Int × Int × Unit) × Bool × Unit) × Int × List UInt8 × List UInt8 × Int × Int × Int × List (List UInt8 × Int × Unit) × Bool × Bool × Unit) := x19.2.2.2.2.2.2.2.2.2.2.2.2.2.2.2.2.2.1
 let quiet38 : Bool := x19.2.2.2.2.2.2.2.2.2.2.2.2.2.2.2.2.2.2.1
 let files39 : List (List UInt8 × List UInt8 × Unit) := x19.2.2.2.2.2.2.2.2.2.2.2.2.2.2.2.2.2.2.2.1
 let row40 : List (List UInt8 × Bool × Unit) := x19.2.2.2.2.2.2.2.2.2.2.2.2.2.2.2.2.2.2.2.2.1
 br (decide (t14_22 < t13_21)) (
  chk (inB t14_22 t12_20.length) (
   let v41 : List UInt8 × Bool × Unit := getAt (Ty.dflt TSsbE) t12_20 t14_22
   br (!v41.2.1) (
    ob (bank_turn_put n (v41.1, true, Phase23, PC24, N25, Code26, Used27, Pattern28, Hold29, End30, Last31, Changed32, Ranges33, Queue34, Quiet35, Pats36, Cmds37, quiet38, files39, row40, ())) fun y42 =>
    let v43 : Int := IntKind.wrap .i64 (t14_22 + 1)
    g0 (t12_20, t13_21, v43, y42.1, y42.2.1, y42.2.2.1, y42.2.2.2.1, y42.2.2.2.2.1, y42.2.2.2.2.2.1, y42.2.2.2.2.2.2.1, y42.2.2.2.2.2.2.2.1, y42.2.2.2.2.2.2.2.2.1, y42.2.2.2.2.2.2.2.2.2.1, y42.2.2.2.2.2.2.2.2.2.2.1, y42.2.2.2.2.2.2.2.2.2.2.2.1, y42.2.2.2.2.2.2.2.2.2.2.2.2.1, y42.2.2.2.2.2.2.2.2.2.2.2.2.2.1, y42.2.2.2.2.2.2.2.2.2.2.2.2.2.2.1, y42.2.2.2.2.2.2.2.2.2.2.2.2.2.2.2.1, y42.2.2.2.2.2.2.2.2.2.2.2.2.2.2.2.2.1, y42.2.2.2.2.2.2.2.2.2.2.2.2.2.2.2.2.2.1, ())) (
    ob (table_Get n (files39, v41.1)) fun y44 =>
    br (!(y44.1 == [])) (
     ob (strings_CutSuffix n (y44.1, [10])) fun y45 =>
     ob (bank_turn_put n (y45.1, y45.2, Phase23, PC24, N25, Code26, Used27, Pattern28, Hold29, End30, Last31, Changed32, Ranges33, Queue34, Quiet35, Pats36, Cmds37, quiet38, files39, row40, ())) fun y46 =>
     let v47 : Int := IntKind.wrap .i64 (t14_22 + 1)
     g0 (t12_20, t13_21, v47, y46.1, y46.2.1, y46.2.2.1, y46.2.2.2.1, y46.2.2.2.2.1, y46.2.2.2.2.2.1, y46.2.2.2.2.2.2.1, y46.2.2.2.2.2.2.2.1, y46.2.2.2.2.2.2.2.2.1, y46.2.2.2.2.2.2.2.2.2.1, y46.2.2.2.2.2.2.2.2.2.2.1, y46.2.2.2.2.2.2.2.2.2.2.2.1, y46.2.2.2.2.2.2.2.2.2.2.2.2.1, y46.2.2.2.2.2.2.2.2.2.2.2.2.2.1, y46.2.2.2.2.2.2.2.2.2.2.2.2.2.2.1, y46.2.2.2.2.2.2.2.2.2.2.2.2.2.2.2.1, y46.2.2.2.2.2.2.2.2.2.2.2.2.2.2.2.2.1, y46.2.2.2.2.2.2.2.2.2.2.2.2.2.2.2.2.2.1, ())) (
     let v48 : Int := IntKind.wrap .i64 (t14_22 + 1)
     g0 (t12_20, t13_21, v48, Phase23, PC24, N25, Code26, Used27, Pattern28, Hold29, End30, Last31, Changed32, Ranges33, Queue34, Quiet35, Pats36, Cmds37, quiet38, files39, row40, ()))))) (
  some (Phase23, PC24, N25, Code26, Used27, Pattern28, Hold29, End30, Last31, Changed32, Ranges33, [], Quiet35, Pats36, Cmds37, quiet38, files39, row40, ()))
def bank_turn_flush (n : Nat) (x : Int × Int × Int × Int × Int × List UInt8 × List UInt8 × Bool × Bool × Bool × List (Bool × Int × Unit) × List (List UInt8 × Bool × Unit) × Bool × List (List (NdT) × Bool × Unit) × List (((Int × Int × Int × Unit) × (Int × Int × Int × Unit) × Bool × Unit) × Int × List UInt8 × List UInt8 × Int × Int × Int × List (List UInt8 × Int × Unit) × Bool × Bool × Unit) × Bool × List (List UInt8 × List UInt8 × Unit) × List (List UInt8 × Bool × Unit) × Unit) : Option (Int × Int × Int × Int × Int × List UInt8 × List UInt8 × Bool × Bool × Bool × List (Bool × Int × Unit) × List (List UInt8 × Bool × Unit) × Bool × List (List (NdT) × Bool × Unit) × List (((Int × Int × Int × Unit) × (Int × Int × Int × Unit) × Bool × Unit) × Int × List UInt8 × List UInt8 × Int × Int × Int × List (List UInt8 × Int × Unit) × Bool × Bool × Unit) × Bool × List (List UInt8 × List UInt8 × Unit) × List (List UInt8 × Bool × Unit) × Unit) :=
 let Phase1 : Int := x.1
 let PC2 : Int := x.2.1
 let N3 : Int := x.2.2.1
 let Code4 : Int := x.2.2.2.1
 let Used5 : Int := x.2.2.2.2.1
 let Pattern6 : List UInt8 := x.2.2.2.2.2.1
 let Hold7 : List UInt8 := x.2.2.2.2.2.2.1
 let End8 : Bool := x.2.2.2.2.2.2.2.1
 let Last9 : Bool := x.2.2.2.2.2.2.2.2.1
 let Changed10 : Bool := x.2.2.2.2.2.2.2.2.2.1
 let Ranges11 : List (Bool × Int × Unit) := x.2.2.2.2.2.2.2.2.2.2.1
 let Queue12 : List (List UInt8 × Bool × Unit) := x.2.2.2.2.2.2.2.2.2.2.2.1
 let Quiet13 : Bool := x.2.2.2.2.2.2.2.2.2.2.2.2.1
 let Pats14 : List (List (NdT) × Bool × Unit) := x.2.2.2.2.2.2.2.2.2.2.2.2.2.1
 let Cmds15 : List (((Int × Int × Int × Unit) × (Int × Int × Int × Unit) × Bool × Unit) × Int × List UInt8 × List UInt8 × Int × Int × Int × List (List UInt8 × Int × Unit) × Bool × Bool × Unit) := x.2.2.2.2.2.2.2.2.2.2.2.2.2.2.1
 let quiet16 : Bool := x.2.2.2.2.2.2.2.2.2.2.2.2.2.2.2.1
 let files17 : List (List UInt8 × List UInt8 × Unit) := x.2.2.2.2.2.2.2.2.2.2.2.2.2.2.2.2.1
 let row18 : List (List UInt8 × Bool × Unit) := x.2.2.2.2.2.2.2.2.2.2.2.2.2.2.2.2.2.1
 fix (bank_turn_flush_loop0 n) n (Queue12, (Queue12.length : Int), 0, Phase1, PC2, N3, Code4, Used5, Pattern6, Hold7, End8, Last9, Changed10, Ranges11, Queue12, Quiet13, Pats14, Cmds15, quiet16, files17, row18, ())
def bank_turn_end (n : Nat) (x : Int × Int × Int × Int × Int × List UInt8 × List UInt8 × Bool × Bool × Bool × List (Bool × Int × Unit) × List (List UInt8 × Bool × Unit) × Bool × List (List (NdT) × Bool × Unit) × List (((Int × Int × Int × Unit) × (Int × Int × Int × Unit) × Bool × Unit) × Int × List UInt8 × List UInt8 × Int × Int × Int × List (List UInt8 × Int × Unit) × Bool × Bool × Unit) × Bool × List (List UInt8 × List UInt8 × Unit) × List (List UInt8 × Bool × Unit) × Unit) : Option (Int × Int × Int × Int × Int × List UInt8 × List UInt8 × Bool × Bool × Bool × List (Bool × Int × Unit) × List (List UInt8 × Bool × Unit) × Bool × List (List (NdT) × Bool × Unit) × List (((Int × Int × Int × Unit) × (Int × Int × Int × Unit) × Bool × Unit) × Int × List UInt8 × List UInt8 × Int × Int × Int × List (List UInt8 × Int × Unit) × Bool × Bool × Unit) × Bool × List (List UInt8 × List UInt8 × Unit) × List (List UInt8 × Bool × Unit) × Unit) :=
 let Phase1 : Int := x.1
 let PC2 : Int := x.2.1
 let N3 : Int := x.2.2.1
 let Code4 : Int := x.2.2.2.1
 let Used5 : Int := x.2.2.2.2.1
 let Pattern6 : List UInt8 := x.2.2.2.2.2.1
 let Hold7 : List UInt8 := x.2.2.2.2.2.2.1
 let End8 : Bool := x.2.2.2.2.2.2.2.1
 let Last9 : Bool := x.2.2.2.2.2.2.2.2.1
 let Changed10 : Bool := x.2.2.2.2.2.2.2.2.2.1
 let Ranges11 : List (Bool × Int × Unit) := x.2.2.2.2.2.2.2.2.2.2.1
 let Queue12 : List (List UInt8 × Bool × Unit) := x.2.2.2.2.2.2.2.2.2.2.2.1
 let Quiet13 : Bool := x.2.2.2.2.2.2.2.2.2.2.2.2.1
 let Pats14 : List (List (NdT) × Bool × Unit) := x.2.2.2.2.2.2.2.2.2.2.2.2.2.1
 let Cmds15 : List (((Int × Int × Int × Unit) × (Int × Int × Int × Unit) × Bool × Unit) × Int × List UInt8 × List UInt8 × Int × Int × Int × List (List UInt8 × Int × Unit) × Bool × Bool × Unit) := x.2.2.2.2.2.2.2.2.2.2.2.2.2.2.1
 let quiet16 : Bool := x.2.2.2.2.2.2.2.2.2.2.2.2.2.2.2.1
 let files17 : List (List UInt8 × List UInt8 × Unit) := x.2.2.2.2.2.2.2.2.2.2.2.2.2.2.2.2.1
 let row18 : List (List UInt8 × Bool × Unit) := x.2.2.2.2.2.2.2.2.2.2.2.2.2.2.2.2.2.1
 ob (bank_turn_flush n (Phase1, PC2, N3, Code4, Used5, Pattern6, Hold7, End8, Last9, Changed10, Ranges11, Queue12, Quiet13, Pats14, Cmds15, quiet16, files17, row18, ())) fun y19 =>
 some (0, y19.2.1, y19.2.2.1, y19.2.2.2.1, y19.2.2.2.2.1, y19.2.2.2.2.2.1, y19.2.2.2.2.2.2.1, y19.2.2.2.2.2.2.2.1, y19.2.2.2.2.2.2.2.2.1, y19.2.2.2.2.2.2.2.2.2.1, y19.2.2.2.2.2.2.2.2.2.2.1, y19.2.2.2.2.2.2.2.2.2.2.2.1, y19.2.2.2.2.2.2.2.2.2.2.2.2.1, y19.2.2.2.2.2.2.2.2.2.2.2.2.2.1, y19.2.2.2.2.2.2.2.2.2.2.2.2.2.2.1, y19.2.2.2.2.2.2.2.2.2.2.2.2.2.2.2.1, y19.2.2.2.2.2.2.2.2.2.2.2.2.2.2.2.2.1, y19.2.2.2.2.2.2.2.2.2.2.2.2.2.2.2.2.2.1, ())
def slices_Clone_addrState (_n:Nat) (x:List (Bool × Int × Unit) × Unit):Option (List (Bool × Int × Unit) × Unit):=cloneG 16 x
def bank_turn_asked_loop0 (n : Nat) (g0 : Int × Int × Int × Int × Int × Int × Int × List UInt8 × List UInt8 × Bool × Bool × Bool × List (Bool × Int × Unit) × List (List UInt8 × Bool × Unit) × Bool × List (List (NdT) × Bool × Unit) × List (((Int × Int × Int × Unit) × (Int × Int × Int × Unit) × Bool × Unit) × Int × List UInt8 × List UInt8 × Int × Int × Int × List (List UInt8 × Int × Unit) × Bool × Bool × Unit) × Bool × List (List UInt8 × List UInt8 × Unit) × List (List UInt8 × Bool × Unit) × Int × Int × Int × Int × Int × Int × Bool × Int × List UInt8 × List UInt8 × Int × Int × Int × List (List UInt8 × Int × Unit) × Bool × Bool × List (Bool) × List (Int × Int × Int × Unit) × Unit -> Option (Bool × Int × Int × Int × Int × Int × List UInt8 × List UInt8 × Bool × Bool × Bool × List (List UInt8 × Bool × Unit) × Bool × List (List (NdT) × Bool × Unit) × List (((Int × Int × Int × Unit) × (Int × Int × Int × Unit) × Bool × Unit) × Int × List UInt8 × List UInt8 × Int × Int × Int × List (List UInt8 × Int × Unit) × Bool × Bool × Unit) × Bool × List (List UInt8 × List UInt8 × Unit) × List (List UInt8 × Bool × Unit) × List (Bool × Int × Unit) × Unit)) (x37 : Int × Int × Int × Int × Int × Int × Int × List UInt8 × List UInt8 × Bool × Bool × Bool × List (Bool × Int × Unit) × List (List UInt8 × Bool × Unit) × Bool × List (List (NdT) × Bool × Unit) × List (((Int × Int × Int × Unit) × (Int × Int × Int × Unit) × Bool × Unit) × Int × List UInt8 × List UInt8 × Int × Int × Int × List (List UInt8 × Int × Unit) × Bool × Bool × Unit) × Bool × List (List UInt8 × List UInt8 × Unit) × List (List UInt8 × Bool × Unit) × Int × Int × Int × Int × Int × Int × Bool × Int × List UInt8 × List UInt8 × Int × Int × Int × List (List UInt8 × Int × Unit) × Bool × Bool × List (Bool) × List (Int × Int × Int × Unit) × Unit) : Option (Bool × Int × Int × Int × Int × Int × List UInt8 × List UInt8 × Bool × Bool × Bool × List (List UInt8 × Bool × Unit) × Bool × List (List (NdT) × Bool × Unit) × List (((Int × Int × Int × Unit) × (Int × Int × Int × Unit) × Bool × Unit) × Int × List UInt8 × List UInt8 × Int × Int × Int × List (List UInt8 × Int × Unit) × Bool × Bool × Unit) × Bool × List (List UInt8 × List UInt8 × Unit) × List (List UInt8 × Bool × Unit) × List (Bool × Int × Unit) × Unit) :=
 let t24_38 : Int := x37.1
 let t25_39 : Int := x37.2.1
 let Phase40 : Int := x37.2.2.1
 let PC41 : Int := x37.2.2.2.1
 let N42 : Int := x37.2.2.2.2.1
 let Code43 : Int := x37.2.2.2.2.2.1
 let Used44 : Int := x37.2.2.2.2.2.2.1
 let Pattern45 : List UInt8 := x37.2.2.2.2.2.2.2.1
 let Hold46 : List UInt8 := x37.2.2.2.2.2.2.2.2.1
 let End47 : Bool := x37.2.2.2.2.2.2.2.2.2.1
 let Last48 : Bool := x37.2.2.2.2.2.2.2.2.2.2.1
 let Changed49 : Bool := x37.2.2.2.2.2.2.2.2.2.2.2.1
 let Ranges50 : List (Bool × Int × Unit) := x37.2.2.2.2.2.2.2.2.2.2.2.2.1
 let Queue51 : List (List UInt8 × Bool × Unit) := x37.2.2.2.2.2.2.2.2.2.2.2.2.2.1
 let Quiet52 : Bool := x37.2.2.2.2.2.2.2.2.2.2.2.2.2.2.1
 let Pats53 : List (List (NdT) × Bool × Unit) := x37.2.2.2.2.2.2.2.2.2.2.2.2.2.2.2.1
 let Cmds54 : List (((Int × Int × Int × Unit) × (Int × Int × Int × Unit) × Bool × Unit) × Int × List UInt8 × List UInt8 × Int × Int × Int × List (List UInt8 × Int × Unit) × Bool × Bool × Unit) := x37.2.2.2.2.2.2.2.2.2.2.2.2.2.2.2.2.1
 let quiet55 : Bool := x37.2.2.2.2.2.2.2.2.2.2.2.2.2.2.2.2.2.1
 let files56 : List (List UInt8 × List UInt8 × Unit) := x37.2.2.2.2.2.2.2.2.2.2.2.2.2.2.2.2.2.2.1
 let row57 : List (List UInt8 × Bool × Unit) := x37.2.2.2.2.2.2.2.2.2.2.2.2.2.2.2.2.2.2.2.1
 let Kind58 : Int := x37.2.2.2.2.2.2.2.2.2.2.2.2.2.2.2.2.2.2.2.2.1
 let N59 : Int := x37.2.2.2.2.2.2.2.2.2.2.2.2.2.2.2.2.2.2.2.2.2.1
 let M60 : Int := x37.2.2.2.2.2.2.2.2.2.2.2.2.2.2.2.2.2.2.2.2.2.2.1
 let Kind61 : Int := x37.2.2.2.2.2.2.2.2.2.2.2.2.2.2.2.2.2.2.2.2.2.2.2.1
 let N62 : Int := x37.2.2.2.2.2.2.2.2.2.2.2.2.2.2.2.2.2.2.2.2.2.2.2.2.1
 let M63 : Int := x37.2.2.2.2.2.2.2.2.2.2.2.2.2.2.2.2.2.2.2.2.2.2.2.2.2.1
 let Not64 : Bool := x37.2.2.2.2.2.2.2.2.2.2.2.2.2.2.2.2.2.2.2.2.2.2.2.2.2.2.1
 let Op65 : Int := x37.2.2.2.2.2.2.2.2.2.2.2.2.2.2.2.2.2.2.2.2.2.2.2.2.2.2.2.1
 let Text66 : List UInt8 := x37.2.2.2.2.2.2.2.2.2.2.2.2.2.2.2.2.2.2.2.2.2.2.2.2.2.2.2.2.1
 let Into67 : List UInt8 := x37.2.2.2.2.2.2.2.2.2.2.2.2.2.2.2.2.2.2.2.2.2.2.2.2.2.2.2.2.2.1
 let N68 : Int := x37.2.2.2.2.2.2.2.2.2.2.2.2.2.2.2.2.2.2.2.2.2.2.2.2.2.2.2.2.2.2.1
 let To69 : Int := x37.2.2.2.2.2.2.2.2.2.2.2.2.2.2.2.2.2.2.2.2.2.2.2.2.2.2.2.2.2.2.2.1
 let Pat70 : Int := x37.2.2.2.2.2.2.2.2.2.2.2.2.2.2.2.2.2.2.2.2.2.2.2.2.2.2.2.2.2.2.2.2.1
 let Parts71 : List (List UInt8 × Int × Unit) := x37.2.2.2.2.2.2.2.2.2.2.2.2.2.2.2.2.2.2.2.2.2.2.2.2.2.2.2.2.2.2.2.2.2.1
 let All72 : Bool := x37.2.2.2.2.2.2.2.2.2.2.2.2.2.2.2.2.2.2.2.2.2.2.2.2.2.2.2.2.2.2.2.2.2.2.1
 let Print73 : Bool := x37.2.2.2.2.2.2.2.2.2.2.2.2.2.2.2.2.2.2.2.2.2.2.2.2.2.2.2.2.2.2.2.2.2.2.2.1
 let row74 : List (Bool) := x37.2.2.2.2.2.2.2.2.2.2.2.2.2.2.2.2.2.2.2.2.2.2.2.2.2.2.2.2.2.2.2.2.2.2.2.2.1
 let row75 : List (Int × Int × Int × Unit) := x37.2.2.2.2.2.2.2.2.2.2.2.2.2.2.2.2.2.2.2.2.2.2.2.2.2.2.2.2.2.2.2.2.2.2.2.2.2.1
 br (decide (t25_39 < t24_38)) (
  chk ((inB t25_39 (row75.length) && decide (0 + (row75.length) <= row75.length))) (
   chk (decide (0 + t25_39.toNat < row75.length)) (
    let v76 : Int := (row75.getD (0 + t25_39.toNat) (Ty.dflt TSiiiE)).1
    br (v76 == 4) (
     none) (
     let v79 : Int := IntKind.wrap .i64 (t25_39 + 1)
     g0 (t24_38, v79, Phase40, PC41, N42, Code43, Used44, Pattern45, Hold46, End47, Last48, Changed49, Ranges50, Queue51, Quiet52, Pats53, Cmds54, quiet55, files56, row57, Kind58, N59, M60, Kind61, N62, M63, Not64, Op65, Text66, Into67, N68, To69, Pat70, Parts71, All72, Print73, row74, row75, ()))))) (
  chk (inB PC41 Ranges50.length) (
   let v80 : Bool × Int × Unit := getAt (Ty.dflt TSbiE) Ranges50 PC41
   ob (addr_Ask n (((Kind58, (N59, (M60, ()))), ((Kind61, (N62, (M63, ()))), (Not64, ()))), v80, (N42, (Last48, (row74, ()))))) fun y81 =>
   ob (slices_Clone_addrState n (Ranges50, ())) fun y82 =>
   chk ((inB PC41 (y82.1.length) && decide (0 + (y82.1.length) <= y82.1.length))) (
    chk (decide (0 + PC41.toNat < y82.1.length)) (
     let r83 : List (Bool × Int × Unit) := y82.1.set (0 + PC41.toNat) y81.2
     some (y81.1, Phase40, PC41, N42, Code43, Used44, Pattern45, Hold46, End47, Last48, Changed49, Queue51, Quiet52, Pats53, Cmds54, quiet55, files56, row57, r83, ())))))
def bank_turn_asked (n : Nat) (x : Int × Int × Int × Int × Int × Int × Bool × Int × List UInt8 × List UInt8 × Int × Int × Int × List (List UInt8 × Int × Unit) × Bool × Bool × Int × Int × Int × Int × Int × List UInt8 × List UInt8 × Bool × Bool × Bool × List (Bool × Int × Unit) × List (List UInt8 × Bool × Unit) × Bool × List (List (NdT) × Bool × Unit) × List (((Int × Int × Int × Unit) × (Int × Int × Int × Unit) × Bool × Unit) × Int × List UInt8 × List UInt8 × Int × Int × Int × List (List UInt8 × Int × Unit) × Bool × Bool × Unit) × Bool × List (List UInt8 × List UInt8 × Unit) × List (List UInt8 × Bool × Unit) × Unit) : Option (Bool × Int × Int × Int × Int × Int × List UInt8 × List UInt8 × Bool × Bool × Bool × List (List UInt8 × Bool × Unit) × Bool × List (List (NdT) × Bool × Unit) × List (((Int × Int × Int × Unit) × (Int × Int × Int × Unit) × Bool × Unit) × Int × List UInt8 × List UInt8 × Int × Int × Int × List (List UInt8 × Int × Unit) × Bool × Bool × Unit) × Bool × List (List UInt8 × List UInt8 × Unit) × List (List UInt8 × Bool × Unit) × List (Bool × Int × Unit) × Unit) :=
 let c_1 : Int := x.1
 let c_2 : Int := x.2.1
 let c_3 : Int := x.2.2.1
 let c_4 : Int := x.2.2.2.1
 let c_5 : Int := x.2.2.2.2.1
 let c_6 : Int := x.2.2.2.2.2.1
 let c_7 : Bool := x.2.2.2.2.2.2.1
 let c_8 : Int := x.2.2.2.2.2.2.2.1
 let c_9 : List UInt8 := x.2.2.2.2.2.2.2.2.1
 let c_10 : List UInt8 := x.2.2.2.2.2.2.2.2.2.1
 let c_11 : Int := x.2.2.2.2.2.2.2.2.2.2.1
 let c_12 : Int := x.2.2.2.2.2.2.2.2.2.2.2.1
 let c_13 : Int := x.2.2.2.2.2.2.2.2.2.2.2.2.1
 let c_14 : List (List UInt8 × Int × Unit) := x.2.2.2.2.2.2.2.2.2.2.2.2.2.1
 let c_15 : Bool := x.2.2.2.2.2.2.2.2.2.2.2.2.2.2.1
 let c_16 : Bool := x.2.2.2.2.2.2.2.2.2.2.2.2.2.2.2.1
 let Phase17 : Int := x.2.2.2.2.2.2.2.2.2.2.2.2.2.2.2.2.1
 let PC18 : Int := x.2.2.2.2.2.2.2.2.2.2.2.2.2.2.2.2.2.1
 let N19 : Int := x.2.2.2.2.2.2.2.2.2.2.2.2.2.2.2.2.2.2.1
 let Code20 : Int := x.2.2.2.2.2.2.2.2.2.2.2.2.2.2.2.2.2.2.2.1
 let Used21 : Int := x.2.2.2.2.2.2.2.2.2.2.2.2.2.2.2.2.2.2.2.2.1
 let Pattern22 : List UInt8 := x.2.2.2.2.2.2.2.2.2.2.2.2.2.2.2.2.2.2.2.2.2.1
 let Hold23 : List UInt8 := x.2.2.2.2.2.2.2.2.2.2.2.2.2.2.2.2.2.2.2.2.2.2.1
 let End24 : Bool := x.2.2.2.2.2.2.2.2.2.2.2.2.2.2.2.2.2.2.2.2.2.2.2.1
 let Last25 : Bool := x.2.2.2.2.2.2.2.2.2.2.2.2.2.2.2.2.2.2.2.2.2.2.2.2.1
 let Changed26 : Bool := x.2.2.2.2.2.2.2.2.2.2.2.2.2.2.2.2.2.2.2.2.2.2.2.2.2.1
 let Ranges27 : List (Bool × Int × Unit) := x.2.2.2.2.2.2.2.2.2.2.2.2.2.2.2.2.2.2.2.2.2.2.2.2.2.2.1
 let Queue28 : List (List UInt8 × Bool × Unit) := x.2.2.2.2.2.2.2.2.2.2.2.2.2.2.2.2.2.2.2.2.2.2.2.2.2.2.2.1
 let Quiet29 : Bool := x.2.2.2.2.2.2.2.2.2.2.2.2.2.2.2.2.2.2.2.2.2.2.2.2.2.2.2.2.1
 let Pats30 : List (List (NdT) × Bool × Unit) := x.2.2.2.2.2.2.2.2.2.2.2.2.2.2.2.2.2.2.2.2.2.2.2.2.2.2.2.2.2.1
 let Cmds31 : List (((Int × Int × Int × Unit) × (Int × Int × Int × Unit) × Bool × Unit) × Int × List UInt8 × List UInt8 × Int × Int × Int × List (List UInt8 × Int × Unit) × Bool × Bool × Unit) := x.2.2.2.2.2.2.2.2.2.2.2.2.2.2.2.2.2.2.2.2.2.2.2.2.2.2.2.2.2.2.1
 let quiet32 : Bool := x.2.2.2.2.2.2.2.2.2.2.2.2.2.2.2.2.2.2.2.2.2.2.2.2.2.2.2.2.2.2.2.1
 let files33 : List (List UInt8 × List UInt8 × Unit) := x.2.2.2.2.2.2.2.2.2.2.2.2.2.2.2.2.2.2.2.2.2.2.2.2.2.2.2.2.2.2.2.2.1
 let row34 : List (List UInt8 × Bool × Unit) := x.2.2.2.2.2.2.2.2.2.2.2.2.2.2.2.2.2.2.2.2.2.2.2.2.2.2.2.2.2.2.2.2.2.1
 chk ((decide (0 <= (Pats30.length : Int)) && (decide ((Pats30.length : Int) = (Pats30.length : Int)) && Nat.ble ((Pats30.length : Int).toNat * 1) room))) (
  let r35 : List (Bool) := List.replicate (Pats30.length : Int).toNat false
  let v36 : Int := (([(c_1, (c_2, (c_3, ()))), (c_4, (c_5, (c_6, ())))].length : Nat) : Int)
  fix (bank_turn_asked_loop0 n) n (v36, 0, Phase17, PC18, N19, Code20, Used21, Pattern22, Hold23, End24, Last25, Changed26, Ranges27, Queue28, Quiet29, Pats30, Cmds31, quiet32, files33, row34, c_1, c_2, c_3, c_4, c_5, c_6, c_7, c_8, c_9, c_10, c_11, c_12, c_13, c_14, c_15, c_16, r35, [(c_1, (c_2, (c_3, ()))), (c_4, (c_5, (c_6, ())))], ()))
def table_Add (n : Nat) (x : List (List UInt8 × List UInt8 × Unit) × List UInt8 × List UInt8) : Option (List (List UInt8 × List UInt8 × Unit)) :=
 let t_0 : List (List UInt8 × List UInt8 × Unit) := x.1
 let file_1 : List UInt8 := x.2.1
 let data_2 : List UInt8 := x.2.2
 ob (table_Get n (t_0, file_1)) fun y1 =>
 chk (decide (y1.1.length + data_2.length <= maxStr)) (
  ob (table_Put n (t_0, file_1, y1.1 ++ data_2)) fun y2 =>
  some y2)
def bank_turn_writes (n : Nat) (x : Int × Int × Int × Int × Int × Int × Bool × Int × List UInt8 × List UInt8 × Int × Int × Int × List (List UInt8 × Int × Unit) × Bool × Bool × Int × Int × Int × Int × Int × List UInt8 × List UInt8 × Bool × Bool × Bool × List (List UInt8 × Bool × Unit) × Bool × List (List (NdT) × Bool × Unit) × List (((Int × Int × Int × Unit) × (Int × Int × Int × Unit) × Bool × Unit) × Int × List UInt8 × List UInt8 × Int × Int × Int × List (List UInt8 × Int × Unit) × Bool × Bool × Unit) × Bool × List (List UInt8 × List UInt8 × Unit) × List (Bool × Int × Unit) × List (List UInt8 × Bool × Unit) × Unit) : Option (Int × Int × Int × Int × Int × List UInt8 × List UInt8 × Bool × Bool × Bool × List (List UInt8 × Bool × Unit) × Bool × List (List (NdT) × Bool × Unit) × List (((Int × Int × Int × Unit) × (Int × Int × Int × Unit) × Bool × Unit) × Int × List UInt8 × List UInt8 × Int × Int × Int × List (List UInt8 × Int × Unit) × Bool × Bool × Unit) × Bool × List (List UInt8 × List UInt8 × Unit) × List (Bool × Int × Unit) × List (List UInt8 × Bool × Unit) × Unit) :=
 let c_1 : Int := x.1
 let c_2 : Int := x.2.1
 let c_3 : Int := x.2.2.1
 let c_4 : Int := x.2.2.2.1
 let c_5 : Int := x.2.2.2.2.1
 let c_6 : Int := x.2.2.2.2.2.1
 let c_7 : Bool := x.2.2.2.2.2.2.1
 let c_8 : Int := x.2.2.2.2.2.2.2.1
 let c_9 : List UInt8 := x.2.2.2.2.2.2.2.2.1
 let c_10 : List UInt8 := x.2.2.2.2.2.2.2.2.2.1
 let c_11 : Int := x.2.2.2.2.2.2.2.2.2.2.1
 let c_12 : Int := x.2.2.2.2.2.2.2.2.2.2.2.1
 let c_13 : Int := x.2.2.2.2.2.2.2.2.2.2.2.2.1
 let c_14 : List (List UInt8 × Int × Unit) := x.2.2.2.2.2.2.2.2.2.2.2.2.2.1
 let c_15 : Bool := x.2.2.2.2.2.2.2.2.2.2.2.2.2.2.1
 let c_16 : Bool := x.2.2.2.2.2.2.2.2.2.2.2.2.2.2.2.1
 let Phase17 : Int := x.2.2.2.2.2.2.2.2.2.2.2.2.2.2.2.2.1
 let PC18 : Int := x.2.2.2.2.2.2.2.2.2.2.2.2.2.2.2.2.2.1
 let N19 : Int := x.2.2.2.2.2.2.2.2.2.2.2.2.2.2.2.2.2.2.1
 let Code20 : Int := x.2.2.2.2.2.2.2.2.2.2.2.2.2.2.2.2.2.2.2.1
 let Used21 : Int := x.2.2.2.2.2.2.2.2.2.2.2.2.2.2.2.2.2.2.2.2.1
 let Pattern22 : List UInt8 := x.2.2.2.2.2.2.2.2.2.2.2.2.2.2.2.2.2.2.2.2.2.1
 let Hold23 : List UInt8 := x.2.2.2.2.2.2.2.2.2.2.2.2.2.2.2.2.2.2.2.2.2.2.1
 let End24 : Bool := x.2.2.2.2.2.2.2.2.2.2.2.2.2.2.2.2.2.2.2.2.2.2.2.1
 let Last25 : Bool := x.2.2.2.2.2.2.2.2.2.2.2.2.2.2.2.2.2.2.2.2.2.2.2.2.1
 let Changed26 : Bool := x.2.2.2.2.2.2.2.2.2.2.2.2.2.2.2.2.2.2.2.2.2.2.2.2.2.1
 let Queue27 : List (List UInt8 × Bool × Unit) := x.2.2.2.2.2.2.2.2.2.2.2.2.2.2.2.2.2.2.2.2.2.2.2.2.2.2.1
 let Quiet28 : Bool := x.2.2.2.2.2.2.2.2.2.2.2.2.2.2.2.2.2.2.2.2.2.2.2.2.2.2.2.1
 let Pats29 : List (List (NdT) × Bool × Unit) := x.2.2.2.2.2.2.2.2.2.2.2.2.2.2.2.2.2.2.2.2.2.2.2.2.2.2.2.2.1
 let Cmds30 : List (((Int × Int × Int × Unit) × (Int × Int × Int × Unit) × Bool × Unit) × Int × List UInt8 × List UInt8 × Int × Int × Int × List (List UInt8 × Int × Unit) × Bool × Bool × Unit) := x.2.2.2.2.2.2.2.2.2.2.2.2.2.2.2.2.2.2.2.2.2.2.2.2.2.2.2.2.2.1
 let quiet31 : Bool := x.2.2.2.2.2.2.2.2.2.2.2.2.2.2.2.2.2.2.2.2.2.2.2.2.2.2.2.2.2.2.1
 let files32 : List (List UInt8 × List UInt8 × Unit) := x.2.2.2.2.2.2.2.2.2.2.2.2.2.2.2.2.2.2.2.2.2.2.2.2.2.2.2.2.2.2.2.1
 let row33 : List (Bool × Int × Unit) := x.2.2.2.2.2.2.2.2.2.2.2.2.2.2.2.2.2.2.2.2.2.2.2.2.2.2.2.2.2.2.2.2.1
 let row34 : List (List UInt8 × Bool × Unit) := x.2.2.2.2.2.2.2.2.2.2.2.2.2.2.2.2.2.2.2.2.2.2.2.2.2.2.2.2.2.2.2.2.2.1
 chk (decide (Pattern22.length + ([10] : List UInt8).length <= maxStr)) (
  ob (table_Add n (files32, c_9, Pattern22 ++ [10])) fun y35 =>
  some (Phase17, PC18, N19, Code20, Used21, Pattern22, Hold23, End24, Last25, Changed26, Queue27, Quiet28, Pats29, Cmds30, quiet31, y35, row33, row34, ()))
def bank_Step (n : Nat) (x : (Bool × List (List (NdT) × Bool × Unit) × List (((Int × Int × Int × Unit) × (Int × Int × Int × Unit) × Bool × Unit) × Int × List UInt8 × List UInt8 × Int × Int × Int × List (List UInt8 × Int × Unit) × Bool × Bool × Unit) × Unit) × Bool × (Int × Int × Int × Int × Int × List UInt8 × List UInt8 × Bool × Bool × Bool × List (Bool × Int × Unit) × List (List UInt8 × Bool × Unit) × Unit) × List (List UInt8 × List UInt8 × Unit)) : Option ((Int × Int × Int × Int × Int × List UInt8 × List UInt8 × Bool × Bool × Bool × List (Bool × Int × Unit) × List (List UInt8 × Bool × Unit) × Unit) × List (List UInt8 × List UInt8 × Unit) × List (List UInt8 × Bool × Unit)) :=
 let x_0 : Bool × List (List (NdT) × Bool × Unit) × List (((Int × Int × Int × Unit) × (Int × Int × Int × Unit) × Bool × Unit) × Int × List UInt8 × List UInt8 × Int × Int × Int × List (List UInt8 × Int × Unit) × Bool × Bool × Unit) × Unit := x.1
 let quiet_1 : Bool := x.2.1
 let b_2 : Int × Int × Int × Int × Int × List UInt8 × List UInt8 × Bool × Bool × Bool × List (Bool × Int × Unit) × List (List UInt8 × Bool × Unit) × Unit := x.2.2.1
 let t_3 : List (List UInt8 × List UInt8 × Unit) := x.2.2.2
 br (b_2.1 != 1) (
  some (b_2, t_3, [])) (
  br (b_2.2.1 == (x_0.2.2.1.length : Int)) (
   ob (bank_turn_print n (b_2.1, b_2.2.1, b_2.2.2.1, b_2.2.2.2.1, b_2.2.2.2.2.1, b_2.2.2.2.2.2.1, b_2.2.2.2.2.2.2.1, b_2.2.2.2.2.2.2.2.1, b_2.2.2.2.2.2.2.2.2.1, b_2.2.2.2.2.2.2.2.2.2.1, b_2.2.2.2.2.2.2.2.2.2.2.1, b_2.2.2.2.2.2.2.2.2.2.2.2.1, x_0.1, x_0.2.1, x_0.2.2.1, quiet_1, t_3, [], ())) fun y1 =>
   ob (bank_turn_end n (y1.1, y1.2.1, y1.2.2.1, y1.2.2.2.1, y1.2.2.2.2.1, y1.2.2.2.2.2.1, y1.2.2.2.2.2.2.1, y1.2.2.2.2.2.2.2.1, y1.2.2.2.2.2.2.2.2.1, y1.2.2.2.2.2.2.2.2.2.1, y1.2.2.2.2.2.2.2.2.2.2.1, y1.2.2.2.2.2.2.2.2.2.2.2.1, y1.2.2.2.2.2.2.2.2.2.2.2.2.1, y1.2.2.2.2.2.2.2.2.2.2.2.2.2.1, y1.2.2.2.2.2.2.2.2.2.2.2.2.2.2.1, y1.2.2.2.2.2.2.2.2.2.2.2.2.2.2.2.1, y1.2.2.2.2.2.2.2.2.2.2.2.2.2.2.2.2.1, y1.2.2.2.2.2.2.2.2.2.2.2.2.2.2.2.2.2.1, ())) fun y2 =>
   let v3 : List (List UInt8 × List UInt8 × Unit) := y2.2.2.2.2.2.2.2.2.2.2.2.2.2.2.2.2.1
   some ((y2.1, (y2.2.1, (y2.2.2.1, (y2.2.2.2.1, (y2.2.2.2.2.1, (y2.2.2.2.2.2.1, (y2.2.2.2.2.2.2.1, (y2.2.2.2.2.2.2.2.1, (y2.2.2.2.2.2.2.2.2.1, (y2.2.2.2.2.2.2.2.2.2.1, (y2.2.2.2.2.2.2.2.2.2.2.1, (y2.2.2.2.2.2.2.2.2.2.2.2.1, ())))))))))))), v3, y2.2.2.2.2.2.2.2.2.2.2.2.2.2.2.2.2.2.1)) (
   chk (inB b_2.2.1 x_0.2.2.1.length) (
    let v4 : ((Int × Int × Int × Unit) × (Int × Int × Int × Unit) × Bool × Unit) × Int × List UInt8 × List UInt8 × Int × Int × Int × List (List UInt8 × Int × Unit) × Bool × Bool × Unit := getAt (Ty.dflt TSSSiiiESiiiEbEcssiiiLSsiEbbE) x_0.2.2.1 b_2.2.1
    ob (bank_turn_asked n (v4.1.1.1, v4.1.1.2.1, v4.1.1.2.2.1, v4.1.2.1.1, v4.1.2.1.2.1, v4.1.2.1.2.2.1, v4.1.2.2.1, v4.2.1, v4.2.2.1, v4.2.2.2.1, v4.2.2.2.2.1, v4.2.2.2.2.2.1, v4.2.2.2.2.2.2.1, v4.2.2.2.2.2.2.2.1, v4.2.2.2.2.2.2.2.2.1, v4.2.2.2.2.2.2.2.2.2.1, b_2.1, b_2.2.1, b_2.2.2.1, b_2.2.2.2.1, b_2.2.2.2.2.1, b_2.2.2.2.2.2.1, b_2.2.2.2.2.2.2.1, b_2.2.2.2.2.2.2.2.1, b_2.2.2.2.2.2.2.2.2.1, b_2.2.2.2.2.2.2.2.2.2.1, b_2.2.2.2.2.2.2.2.2.2.2.1, b_2.2.2.2.2.2.2.2.2.2.2.2.1, x_0.1, x_0.2.1, x_0.2.2.1, quiet_1, t_3, [], ())) fun y5 =>
    let v6 : Int := IntKind.wrap .i64 (y5.2.2.1 + 1)
    br y5.1 (
     chk ((v4.2.1 == 119)) (
      ob (bank_turn_writes n (v4.1.1.1, v4.1.1.2.1, v4.1.1.2.2.1, v4.1.2.1.1, v4.1.2.1.2.1, v4.1.2.1.2.2.1, v4.1.2.2.1, v4.2.1, v4.2.2.1, v4.2.2.2.1, v4.2.2.2.2.1, v4.2.2.2.2.2.1, v4.2.2.2.2.2.2.1, v4.2.2.2.2.2.2.2.1, v4.2.2.2.2.2.2.2.2.1, v4.2.2.2.2.2.2.2.2.2.1, y5.2.1, v6, y5.2.2.2.1, y5.2.2.2.2.1, y5.2.2.2.2.2.1, y5.2.2.2.2.2.2.1, y5.2.2.2.2.2.2.2.1, y5.2.2.2.2.2.2.2.2.1, y5.2.2.2.2.2.2.2.2.2.1, y5.2.2.2.2.2.2.2.2.2.2.1, y5.2.2.2.2.2.2.2.2.2.2.2.1, y5.2.2.2.2.2.2.2.2.2.2.2.2.1, y5.2.2.2.2.2.2.2.2.2.2.2.2.2.1, y5.2.2.2.2.2.2.2.2.2.2.2.2.2.2.1, y5.2.2.2.2.2.2.2.2.2.2.2.2.2.2.2.1, y5.2.2.2.2.2.2.2.2.2.2.2.2.2.2.2.2.1, y5.2.2.2.2.2.2.2.2.2.2.2.2.2.2.2.2.2.2.1, y5.2.2.2.2.2.2.2.2.2.2.2.2.2.2.2.2.2.1, ())) fun y7 =>
      let v8 : List (List UInt8 × List UInt8 × Unit) := y7.2.2.2.2.2.2.2.2.2.2.2.2.2.2.2.1
      some ((y7.1, (y7.2.1, (y7.2.2.1, (y7.2.2.2.1, (y7.2.2.2.2.1, (y7.2.2.2.2.2.1, (y7.2.2.2.2.2.2.1, (y7.2.2.2.2.2.2.2.1, (y7.2.2.2.2.2.2.2.2.1, (y7.2.2.2.2.2.2.2.2.2.1, (y7.2.2.2.2.2.2.2.2.2.2.2.2.2.2.2.2.1, (y7.2.2.2.2.2.2.2.2.2.2.1, ())))))))))))), v8, y7.2.2.2.2.2.2.2.2.2.2.2.2.2.2.2.2.2.1))) (
     br (v4.2.1 == 123) (
      let v9 : Int := IntKind.wrap .i64 (v4.2.2.2.2.2.1 + 1)
      let v10 : List (List UInt8 × List UInt8 × Unit) := y5.2.2.2.2.2.2.2.2.2.2.2.2.2.2.2.2.1
      some ((y5.2.1, (v9, (y5.2.2.2.1, (y5.2.2.2.2.1, (y5.2.2.2.2.2.1, (y5.2.2.2.2.2.2.1, (y5.2.2.2.2.2.2.2.1, (y5.2.2.2.2.2.2.2.2.1, (y5.2.2.2.2.2.2.2.2.2.1, (y5.2.2.2.2.2.2.2.2.2.2.1, (y5.2.2.2.2.2.2.2.2.2.2.2.2.2.2.2.2.2.2.1, (y5.2.2.2.2.2.2.2.2.2.2.2.1, ())))))))))))), v10, y5.2.2.2.2.2.2.2.2.2.2.2.2.2.2.2.2.2.1)) (
      let v11 : List (List UInt8 × List UInt8 × Unit) := y5.2.2.2.2.2.2.2.2.2.2.2.2.2.2.2.2.1
      some ((y5.2.1, (v6, (y5.2.2.2.1, (y5.2.2.2.2.1, (y5.2.2.2.2.2.1, (y5.2.2.2.2.2.2.1, (y5.2.2.2.2.2.2.2.1, (y5.2.2.2.2.2.2.2.2.1, (y5.2.2.2.2.2.2.2.2.2.1, (y5.2.2.2.2.2.2.2.2.2.2.1, (y5.2.2.2.2.2.2.2.2.2.2.2.2.2.2.2.2.2.2.1, (y5.2.2.2.2.2.2.2.2.2.2.2.1, ())))))))))))), v11, y5.2.2.2.2.2.2.2.2.2.2.2.2.2.2.2.2.2.1))))))
def stage_Run_loop0 (n : Nat) (g0 : List (List UInt8 × List UInt8 × Unit) × Int × List (List UInt8 × Bool × Unit) × Int × Bool × List (List (NdT) × Bool × Unit) × List (((Int × Int × Int × Unit) × (Int × Int × Int × Unit) × Bool × Unit) × Int × List UInt8 × List UInt8 × Int × Int × Int × List (List UInt8 × Int × Unit) × Bool × Bool × Unit) × Bool × List (List UInt8) × Bool × List (List UInt8 × List UInt8 × Unit) × Int × Int × Int × Int × Int × Int × Int × List UInt8 × List UInt8 × Bool × Bool × Bool × List (Bool × Int × Unit) × List (List UInt8 × Bool × Unit) × List (List UInt8 × Bool × Unit) × Unit -> Option ((List (List UInt8 × Bool × Unit) × List (List UInt8 × List UInt8 × Unit) × Int × Int × Unit) × Int)) (x5 : List (List UInt8 × List UInt8 × Unit) × Int × List (List UInt8 × Bool × Unit) × Int × Bool × List (List (NdT) × Bool × Unit) × List (((Int × Int × Int × Unit) × (Int × Int × Int × Unit) × Bool × Unit) × Int × List UInt8 × List UInt8 × Int × Int × Int × List (List UInt8 × Int × Unit) × Bool × Bool × Unit) × Bool × List (List UInt8) × Bool × List (List UInt8 × List UInt8 × Unit) × Int × Int × Int × Int × Int × Int × Int × List UInt8 × List UInt8 × Bool × Bool × Bool × List (Bool × Int × Unit) × List (List UInt8 × Bool × Unit) × List (List UInt8 × Bool × Unit) × Unit) : Option ((List (List UInt8 × Bool × Unit) × List (List UInt8 × List UInt8 × Unit) × Int × Int × Unit) × Int) :=
 let t_6 : List (List UInt8 × List UInt8 × Unit) := x5.1
 let fuel_7 : Int := x5.2.1
 let lines_8 : List (List UInt8 × Bool × Unit) := x5.2.2.1
 let status_9 : Int := x5.2.2.2.1
 let Quiet10 : Bool := x5.2.2.2.2.1
 let Pats11 : List (List (NdT) × Bool × Unit) := x5.2.2.2.2.2.1
 let Cmds12 : List (((Int × Int × Int × Unit) × (Int × Int × Int × Unit) × Bool × Unit) × Int × List UInt8 × List UInt8 × Int × Int × Int × List (List UInt8 × Int × Unit) × Bool × Bool × Unit) := x5.2.2.2.2.2.2.1
 let Quiet13 : Bool := x5.2.2.2.2.2.2.2.1
 let Files14 : List (List UInt8) := x5.2.2.2.2.2.2.2.2.1
 let Bad15 : Bool := x5.2.2.2.2.2.2.2.2.2.1
 let Table16 : List (List UInt8 × List UInt8 × Unit) := x5.2.2.2.2.2.2.2.2.2.2.1
 let Status17 : Int := x5.2.2.2.2.2.2.2.2.2.2.2.1
 let Steps18 : Int := x5.2.2.2.2.2.2.2.2.2.2.2.2.1
 let Phase19 : Int := x5.2.2.2.2.2.2.2.2.2.2.2.2.2.1
 let PC20 : Int := x5.2.2.2.2.2.2.2.2.2.2.2.2.2.2.1
 let N21 : Int := x5.2.2.2.2.2.2.2.2.2.2.2.2.2.2.2.1
 let Code22 : Int := x5.2.2.2.2.2.2.2.2.2.2.2.2.2.2.2.2.1
 let Used23 : Int := x5.2.2.2.2.2.2.2.2.2.2.2.2.2.2.2.2.2.1
 let Pattern24 : List UInt8 := x5.2.2.2.2.2.2.2.2.2.2.2.2.2.2.2.2.2.2.1
 let Hold25 : List UInt8 := x5.2.2.2.2.2.2.2.2.2.2.2.2.2.2.2.2.2.2.2.1
 let End26 : Bool := x5.2.2.2.2.2.2.2.2.2.2.2.2.2.2.2.2.2.2.2.2.1
 let Last27 : Bool := x5.2.2.2.2.2.2.2.2.2.2.2.2.2.2.2.2.2.2.2.2.2.1
 let Changed28 : Bool := x5.2.2.2.2.2.2.2.2.2.2.2.2.2.2.2.2.2.2.2.2.2.2.1
 let Ranges29 : List (Bool × Int × Unit) := x5.2.2.2.2.2.2.2.2.2.2.2.2.2.2.2.2.2.2.2.2.2.2.2.1
 let Queue30 : List (List UInt8 × Bool × Unit) := x5.2.2.2.2.2.2.2.2.2.2.2.2.2.2.2.2.2.2.2.2.2.2.2.2.1
 let row31 : List (List UInt8 × Bool × Unit) := x5.2.2.2.2.2.2.2.2.2.2.2.2.2.2.2.2.2.2.2.2.2.2.2.2.2.1
 br (Phase19 == 4) (
  br (Code22 == 0) (
   some ((row31, (t_6, (status_9, (Steps18, ())))), 0)) (
   some ((row31, (t_6, (Code22, (Steps18, ())))), 0))) (
  br (Phase19 != 1) (
   br ((lines_8.length : Int) == 0) (
    ob (bank_Close n (Phase19, (PC20, (N21, (Code22, (Used23, (Pattern24, (Hold25, (End26, (Last27, (Changed28, (Ranges29, (Queue30, ()))))))))))))) fun y32 =>
    g0 (t_6, fuel_7, lines_8, status_9, Quiet10, Pats11, Cmds12, Quiet13, Files14, Bad15, Table16, Status17, Steps18, y32.1, y32.2.1, y32.2.2.1, y32.2.2.2.1, y32.2.2.2.2.1, y32.2.2.2.2.2.1, y32.2.2.2.2.2.2.1, y32.2.2.2.2.2.2.2.1, y32.2.2.2.2.2.2.2.2.1, y32.2.2.2.2.2.2.2.2.2.1, y32.2.2.2.2.2.2.2.2.2.2.1, y32.2.2.2.2.2.2.2.2.2.2.2.1, row31, ())) (
    chk (inB 0 lines_8.length) (
     let v33 : List UInt8 × Bool × Unit := getAt (Ty.dflt TSsbE) lines_8 0
     ob (bank_Give n ((Phase19, (PC20, (N21, (Code22, (Used23, (Pattern24, (Hold25, (End26, (Last27, (Changed28, (Ranges29, (Queue30, ())))))))))))), v33, ((lines_8.length : Int) == 1))) fun y34 =>
     chk ((decide (0 <= (1 : Int)) && decide ((1 : Int) <= (lines_8.length : Int)))) (
      let v35 : List (List UInt8 × Bool × Unit) := lines_8.drop (1 : Int).toNat
      g0 (t_6, fuel_7, v35, status_9, Quiet10, Pats11, Cmds12, Quiet13, Files14, Bad15, Table16, Status17, Steps18, y34.1, y34.2.1, y34.2.2.1, y34.2.2.2.1, y34.2.2.2.2.1, y34.2.2.2.2.2.1, y34.2.2.2.2.2.2.1, y34.2.2.2.2.2.2.2.1, y34.2.2.2.2.2.2.2.2.1, y34.2.2.2.2.2.2.2.2.2.1, y34.2.2.2.2.2.2.2.2.2.2.1, y34.2.2.2.2.2.2.2.2.2.2.2.1, row31, ()))))) (
   br (decide (Steps18 ≥ fuel_7)) (
    some (([], ([], (0, (0, ())))), 4)) (
    let v36 : Int := IntKind.wrap .i64 (Steps18 + 1)
    ob (bank_Step n ((Quiet10, (Pats11, (Cmds12, ()))), Quiet13, (Phase19, (PC20, (N21, (Code22, (Used23, (Pattern24, (Hold25, (End26, (Last27, (Changed28, (Ranges29, (Queue30, ())))))))))))), t_6)) fun y37 =>
    chk (Nat.ble ((row31.length + y37.2.2.length) * 24) room) (
     g0 (y37.2.1, fuel_7, lines_8, status_9, Quiet10, Pats11, Cmds12, Quiet13, Files14, Bad15, Table16, Status17, v36, y37.1.1, y37.1.2.1, y37.1.2.2.1, y37.1.2.2.2.1, y37.1.2.2.2.2.1, y37.1.2.2.2.2.2.1, y37.1.2.2.2.2.2.2.1, y37.1.2.2.2.2.2.2.2.1, y37.1.2.2.2.2.2.2.2.2.1, y37.1.2.2.2.2.2.2.2.2.2.1, y37.1.2.2.2.2.2.2.2.2.2.2.1, y37.1.2.2.2.2.2.2.2.2.2.2.2.1, row31 ++ y37.2.2, ())))))
def stage_Run_loop0b (n : Nat) (g0 : List (List UInt8 × List UInt8 × Unit) × Int × List (List UInt8 × Bool × Unit) × Int × Bool × List (List (NdT) × Bool × Unit) × List (((Int × Int × Int × Unit) × (Int × Int × Int × Unit) × Bool × Unit) × Int × List UInt8 × List UInt8 × Int × Int × Int × List (List UInt8 × Int × Unit) × Bool × Bool × Unit) × Bool × List (List UInt8) × Bool × List (List UInt8 × List UInt8 × Unit) × Int × Int × Int × Int × Int × Int × Int × List UInt8 × List UInt8 × Bool × Bool × Bool × List (Bool × Int × Unit) × List (List UInt8 × Bool × Unit) × List (List UInt8 × Bool × Unit) × Unit -> Option ((List (List UInt8 × Bool × Unit) × List (List UInt8 × List UInt8 × Unit) × Int × Int × Unit) × Int)) (x41 : List (List UInt8 × List UInt8 × Unit) × Int × List (List UInt8 × Bool × Unit) × Int × Bool × List (List (NdT) × Bool × Unit) × List (((Int × Int × Int × Unit) × (Int × Int × Int × Unit) × Bool × Unit) × Int × List UInt8 × List UInt8 × Int × Int × Int × List (List UInt8 × Int × Unit) × Bool × Bool × Unit) × Bool × List (List UInt8) × Bool × List (List UInt8 × List UInt8 × Unit) × Int × Int × Int × Int × Int × Int × Int × List UInt8 × List UInt8 × Bool × Bool × Bool × List (Bool × Int × Unit) × List (List UInt8 × Bool × Unit) × List (List UInt8 × Bool × Unit) × Unit) : Option ((List (List UInt8 × Bool × Unit) × List (List UInt8 × List UInt8 × Unit) × Int × Int × Unit) × Int) :=
 let t_42 : List (List UInt8 × List UInt8 × Unit) := x41.1
 let fuel_43 : Int := x41.2.1
 let lines_44 : List (List UInt8 × Bool × Unit) := x41.2.2.1
 let status_45 : Int := x41.2.2.2.1
 let Quiet46 : Bool := x41.2.2.2.2.1
 let Pats47 : List (List (NdT) × Bool × Unit) := x41.2.2.2.2.2.1
 let Cmds48 : List (((Int × Int × Int × Unit) × (Int × Int × Int × Unit) × Bool × Unit) × Int × List UInt8 × List UInt8 × Int × Int × Int × List (List UInt8 × Int × Unit) × Bool × Bool × Unit) := x41.2.2.2.2.2.2.1
 let Quiet49 : Bool := x41.2.2.2.2.2.2.2.1
 let Files50 : List (List UInt8) := x41.2.2.2.2.2.2.2.2.1
 let Bad51 : Bool := x41.2.2.2.2.2.2.2.2.2.1
 let Table52 : List (List UInt8 × List UInt8 × Unit) := x41.2.2.2.2.2.2.2.2.2.2.1
 let Status53 : Int := x41.2.2.2.2.2.2.2.2.2.2.2.1
 let Steps54 : Int := x41.2.2.2.2.2.2.2.2.2.2.2.2.1
 let Phase55 : Int := x41.2.2.2.2.2.2.2.2.2.2.2.2.2.1
 let PC56 : Int := x41.2.2.2.2.2.2.2.2.2.2.2.2.2.2.1
 let N57 : Int := x41.2.2.2.2.2.2.2.2.2.2.2.2.2.2.2.1
 let Code58 : Int := x41.2.2.2.2.2.2.2.2.2.2.2.2.2.2.2.2.1
 let Used59 : Int := x41.2.2.2.2.2.2.2.2.2.2.2.2.2.2.2.2.2.1
 let Pattern60 : List UInt8 := x41.2.2.2.2.2.2.2.2.2.2.2.2.2.2.2.2.2.2.1
 let Hold61 : List UInt8 := x41.2.2.2.2.2.2.2.2.2.2.2.2.2.2.2.2.2.2.2.1
 let End62 : Bool := x41.2.2.2.2.2.2.2.2.2.2.2.2.2.2.2.2.2.2.2.2.1
 let Last63 : Bool := x41.2.2.2.2.2.2.2.2.2.2.2.2.2.2.2.2.2.2.2.2.2.1
 let Changed64 : Bool := x41.2.2.2.2.2.2.2.2.2.2.2.2.2.2.2.2.2.2.2.2.2.2.1
 let Ranges65 : List (Bool × Int × Unit) := x41.2.2.2.2.2.2.2.2.2.2.2.2.2.2.2.2.2.2.2.2.2.2.2.1
 let Queue66 : List (List UInt8 × Bool × Unit) := x41.2.2.2.2.2.2.2.2.2.2.2.2.2.2.2.2.2.2.2.2.2.2.2.2.1
 let row67 : List (List UInt8 × Bool × Unit) := x41.2.2.2.2.2.2.2.2.2.2.2.2.2.2.2.2.2.2.2.2.2.2.2.2.2.1
 br (Phase55 == 4) (
  br (Code58 == 0) (
   some ((row67, (t_42, (status_45, (Steps54, ())))), 0)) (
   some ((row67, (t_42, (Code58, (Steps54, ())))), 0))) (
  br (Phase55 != 1) (
   br ((lines_44.length : Int) == 0) (
    ob (bank_Close n (Phase55, (PC56, (N57, (Code58, (Used59, (Pattern60, (Hold61, (End62, (Last63, (Changed64, (Ranges65, (Queue66, ()))))))))))))) fun y68 =>
    g0 (t_42, fuel_43, lines_44, status_45, Quiet46, Pats47, Cmds48, Quiet49, Files50, Bad51, Table52, Status53, Steps54, y68.1, y68.2.1, y68.2.2.1, y68.2.2.2.1, y68.2.2.2.2.1, y68.2.2.2.2.2.1, y68.2.2.2.2.2.2.1, y68.2.2.2.2.2.2.2.1, y68.2.2.2.2.2.2.2.2.1, y68.2.2.2.2.2.2.2.2.2.1, y68.2.2.2.2.2.2.2.2.2.2.1, y68.2.2.2.2.2.2.2.2.2.2.2.1, row67, ())) (
    chk (inB 0 lines_44.length) (
     let v69 : List UInt8 × Bool × Unit := getAt (Ty.dflt TSsbE) lines_44 0
     ob (bank_Give n ((Phase55, (PC56, (N57, (Code58, (Used59, (Pattern60, (Hold61, (End62, (Last63, (Changed64, (Ranges65, (Queue66, ())))))))))))), v69, ((lines_44.length : Int) == 1))) fun y70 =>
     chk ((decide (0 <= (1 : Int)) && decide ((1 : Int) <= (lines_44.length : Int)))) (
      let v71 : List (List UInt8 × Bool × Unit) := lines_44.drop (1 : Int).toNat
      g0 (t_42, fuel_43, v71, status_45, Quiet46, Pats47, Cmds48, Quiet49, Files50, Bad51, Table52, Status53, Steps54, y70.1, y70.2.1, y70.2.2.1, y70.2.2.2.1, y70.2.2.2.2.1, y70.2.2.2.2.2.1, y70.2.2.2.2.2.2.1, y70.2.2.2.2.2.2.2.1, y70.2.2.2.2.2.2.2.2.1, y70.2.2.2.2.2.2.2.2.2.1, y70.2.2.2.2.2.2.2.2.2.2.1, y70.2.2.2.2.2.2.2.2.2.2.2.1, row67, ()))))) (
   br (decide (Steps54 ≥ fuel_43)) (
    some (([], ([], (0, (0, ())))), 4)) (
    let v72 : Int := IntKind.wrap .i64 (Steps54 + 1)
    ob (bank_Step n ((Quiet46, (Pats47, (Cmds48, ()))), Quiet49, (Phase55, (PC56, (N57, (Code58, (Used59, (Pattern60, (Hold61, (End62, (Last63, (Changed64, (Ranges65, (Queue66, ())))))))))))), t_42)) fun y73 =>
    chk (Nat.ble ((row67.length + y73.2.2.length) * 24) room) (
     g0 (y73.2.1, fuel_43, lines_44, status_45, Quiet46, Pats47, Cmds48, Quiet49, Files50, Bad51, Table52, Status53, v72, y73.1.1, y73.1.2.1, y73.1.2.2.1, y73.1.2.2.2.1, y73.1.2.2.2.2.1, y73.1.2.2.2.2.2.1, y73.1.2.2.2.2.2.2.1, y73.1.2.2.2.2.2.2.2.1, y73.1.2.2.2.2.2.2.2.2.1, y73.1.2.2.2.2.2.2.2.2.2.1, y73.1.2.2.2.2.2.2.2.2.2.2.1, y73.1.2.2.2.2.2.2.2.2.2.2.2.1, row67 ++ y73.2.2, ())))))
def stage_Run_loop0bb (n : Nat) (g0 : List (List UInt8 × List UInt8 × Unit) × Int × List (List UInt8 × Bool × Unit) × Int × Bool × List (List (NdT) × Bool × Unit) × List (((Int × Int × Int × Unit) × (Int × Int × Int × Unit) × Bool × Unit) × Int × List UInt8 × List UInt8 × Int × Int × Int × List (List UInt8 × Int × Unit) × Bool × Bool × Unit) × Bool × List (List UInt8) × Bool × List (List UInt8 × List UInt8 × Unit) × Int × Int × Int × Int × Int × Int × Int × List UInt8 × List UInt8 × Bool × Bool × Bool × List (Bool × Int × Unit) × List (List UInt8 × Bool × Unit) × List (List UInt8 × Bool × Unit) × Unit -> Option ((List (List UInt8 × Bool × Unit) × List (List UInt8 × List UInt8 × Unit) × Int × Int × Unit) × Int)) (x76 : List (List UInt8 × List UInt8 × Unit) × Int × List (List UInt8 × Bool × Unit) × Int × Bool × List (List (NdT) × Bool × Unit) × List (((Int × Int × Int × Unit) × (Int × Int × Int × Unit) × Bool × Unit) × Int × List UInt8 × List UInt8 × Int × Int × Int × List (List UInt8 × Int × Unit) × Bool × Bool × Unit) × Bool × List (List UInt8) × Bool × List (List UInt8 × List UInt8 × Unit) × Int × Int × Int × Int × Int × Int × Int × List UInt8 × List UInt8 × Bool × Bool × Bool × List (Bool × Int × Unit) × List (List UInt8 × Bool × Unit) × List (List UInt8 × Bool × Unit) × Unit) : Option ((List (List UInt8 × Bool × Unit) × List (List UInt8 × List UInt8 × Unit) × Int × Int × Unit) × Int) :=
 let t_77 : List (List UInt8 × List UInt8 × Unit) := x76.1
 let fuel_78 : Int := x76.2.1
 let lines_79 : List (List UInt8 × Bool × Unit) := x76.2.2.1
 let status_80 : Int := x76.2.2.2.1
 let Quiet81 : Bool := x76.2.2.2.2.1
 let Pats82 : List (List (NdT) × Bool × Unit) := x76.2.2.2.2.2.1
 let Cmds83 : List (((Int × Int × Int × Unit) × (Int × Int × Int × Unit) × Bool × Unit) × Int × List UInt8 × List UInt8 × Int × Int × Int × List (List UInt8 × Int × Unit) × Bool × Bool × Unit) := x76.2.2.2.2.2.2.1
 let Quiet84 : Bool := x76.2.2.2.2.2.2.2.1
 let Files85 : List (List UInt8) := x76.2.2.2.2.2.2.2.2.1
 let Bad86 : Bool := x76.2.2.2.2.2.2.2.2.2.1
 let Table87 : List (List UInt8 × List UInt8 × Unit) := x76.2.2.2.2.2.2.2.2.2.2.1
 let Status88 : Int := x76.2.2.2.2.2.2.2.2.2.2.2.1
 let Steps89 : Int := x76.2.2.2.2.2.2.2.2.2.2.2.2.1
 let Phase90 : Int := x76.2.2.2.2.2.2.2.2.2.2.2.2.2.1
 let PC91 : Int := x76.2.2.2.2.2.2.2.2.2.2.2.2.2.2.1
 let N92 : Int := x76.2.2.2.2.2.2.2.2.2.2.2.2.2.2.2.1
 let Code93 : Int := x76.2.2.2.2.2.2.2.2.2.2.2.2.2.2.2.2.1
 let Used94 : Int := x76.2.2.2.2.2.2.2.2.2.2.2.2.2.2.2.2.2.1
 let Pattern95 : List UInt8 := x76.2.2.2.2.2.2.2.2.2.2.2.2.2.2.2.2.2.2.1
 let Hold96 : List UInt8 := x76.2.2.2.2.2.2.2.2.2.2.2.2.2.2.2.2.2.2.2.1
 let End97 : Bool := x76.2.2.2.2.2.2.2.2.2.2.2.2.2.2.2.2.2.2.2.2.1
 let Last98 : Bool := x76.2.2.2.2.2.2.2.2.2.2.2.2.2.2.2.2.2.2.2.2.2.1
 let Changed99 : Bool := x76.2.2.2.2.2.2.2.2.2.2.2.2.2.2.2.2.2.2.2.2.2.2.1
 let Ranges100 : List (Bool × Int × Unit) := x76.2.2.2.2.2.2.2.2.2.2.2.2.2.2.2.2.2.2.2.2.2.2.2.1
 let Queue101 : List (List UInt8 × Bool × Unit) := x76.2.2.2.2.2.2.2.2.2.2.2.2.2.2.2.2.2.2.2.2.2.2.2.2.1
 let row102 : List (List UInt8 × Bool × Unit) := x76.2.2.2.2.2.2.2.2.2.2.2.2.2.2.2.2.2.2.2.2.2.2.2.2.2.1
 br (Phase90 == 4) (
  br (Code93 == 0) (
   some ((row102, (t_77, (status_80, (Steps89, ())))), 0)) (
   some ((row102, (t_77, (Code93, (Steps89, ())))), 0))) (
  br (Phase90 != 1) (
   br ((lines_79.length : Int) == 0) (
    ob (bank_Close n (Phase90, (PC91, (N92, (Code93, (Used94, (Pattern95, (Hold96, (End97, (Last98, (Changed99, (Ranges100, (Queue101, ()))))))))))))) fun y103 =>
    g0 (t_77, fuel_78, lines_79, status_80, Quiet81, Pats82, Cmds83, Quiet84, Files85, Bad86, Table87, Status88, Steps89, y103.1, y103.2.1, y103.2.2.1, y103.2.2.2.1, y103.2.2.2.2.1, y103.2.2.2.2.2.1, y103.2.2.2.2.2.2.1, y103.2.2.2.2.2.2.2.1, y103.2.2.2.2.2.2.2.2.1, y103.2.2.2.2.2.2.2.2.2.1, y103.2.2.2.2.2.2.2.2.2.2.1, y103.2.2.2.2.2.2.2.2.2.2.2.1, row102, ())) (
    chk (inB 0 lines_79.length) (
     let v104 : List UInt8 × Bool × Unit := getAt (Ty.dflt TSsbE) lines_79 0
     ob (bank_Give n ((Phase90, (PC91, (N92, (Code93, (Used94, (Pattern95, (Hold96, (End97, (Last98, (Changed99, (Ranges100, (Queue101, ())))))))))))), v104, ((lines_79.length : Int) == 1))) fun y105 =>
     chk ((decide (0 <= (1 : Int)) && decide ((1 : Int) <= (lines_79.length : Int)))) (
      let v106 : List (List UInt8 × Bool × Unit) := lines_79.drop (1 : Int).toNat
      g0 (t_77, fuel_78, v106, status_80, Quiet81, Pats82, Cmds83, Quiet84, Files85, Bad86, Table87, Status88, Steps89, y105.1, y105.2.1, y105.2.2.1, y105.2.2.2.1, y105.2.2.2.2.1, y105.2.2.2.2.2.1, y105.2.2.2.2.2.2.1, y105.2.2.2.2.2.2.2.1, y105.2.2.2.2.2.2.2.2.1, y105.2.2.2.2.2.2.2.2.2.1, y105.2.2.2.2.2.2.2.2.2.2.1, y105.2.2.2.2.2.2.2.2.2.2.2.1, row102, ()))))) (
   br (decide (Steps89 ≥ fuel_78)) (
    some (([], ([], (0, (0, ())))), 4)) (
    let v107 : Int := IntKind.wrap .i64 (Steps89 + 1)
    ob (bank_Step n ((Quiet81, (Pats82, (Cmds83, ()))), Quiet84, (Phase90, (PC91, (N92, (Code93, (Used94, (Pattern95, (Hold96, (End97, (Last98, (Changed99, (Ranges100, (Queue101, ())))))))))))), t_77)) fun y108 =>
    chk (Nat.ble ((row102.length + y108.2.2.length) * 24) room) (
     g0 (y108.2.1, fuel_78, lines_79, status_80, Quiet81, Pats82, Cmds83, Quiet84, Files85, Bad86, Table87, Status88, v107, y108.1.1, y108.1.2.1, y108.1.2.2.1, y108.1.2.2.2.1, y108.1.2.2.2.2.1, y108.1.2.2.2.2.2.1, y108.1.2.2.2.2.2.2.1, y108.1.2.2.2.2.2.2.2.1, y108.1.2.2.2.2.2.2.2.2.1, y108.1.2.2.2.2.2.2.2.2.2.1, y108.1.2.2.2.2.2.2.2.2.2.2.1, y108.1.2.2.2.2.2.2.2.2.2.2.2.1, row102 ++ y108.2.2, ())))))
def stage_Run (n : Nat) (x : ((Bool × List (List (NdT) × Bool × Unit) × List (((Int × Int × Int × Unit) × (Int × Int × Int × Unit) × Bool × Unit) × Int × List UInt8 × List UInt8 × Int × Int × Int × List (List UInt8 × Int × Unit) × Bool × Bool × Unit) × Unit) × Bool × List (List UInt8) × Bool × Unit) × List UInt8 × List (List UInt8 × List UInt8 × Unit) × Int) : Option ((List (List UInt8 × Bool × Unit) × List (List UInt8 × List UInt8 × Unit) × Int × Int × Unit) × Int) :=
 let g_0 : (Bool × List (List (NdT) × Bool × Unit) × List (((Int × Int × Int × Unit) × (Int × Int × Int × Unit) × Bool × Unit) × Int × List UInt8 × List UInt8 × Int × Int × Int × List (List UInt8 × Int × Unit) × Bool × Bool × Unit) × Unit) × Bool × List (List UInt8) × Bool × Unit := x.1
 let t1_1 : List UInt8 := x.2.1
 let t_2 : List (List UInt8 × List UInt8 × Unit) := x.2.2.1
 let fuel_3 : Int := x.2.2.2
 br g_0.2.2.2.1 (
  some (([], (t_2, (1, (0, ())))), 0)) (
  ob (stage_Begin n (g_0, t_2)) fun y1 =>
  ob (stage_Lines n (g_0, t1_1, y1)) fun y2 =>
  ob (bank_New n g_0.1) fun y3 =>
  br (y3.1 == 4) (
   br (y3.2.2.2.1 == 0) (
    some (([], (y1, (y2.2, (0, ())))), 0)) (
    some (([], (y1, (y3.2.2.2.1, (0, ())))), 0))) (
   br (y3.1 != 1) (
    br ((y2.1.length : Int) == 0) (
     ob (bank_Close n y3) fun y4 =>
     fix (stage_Run_loop0 n) n (y1, fuel_3, y2.1, y2.2, g_0.1.1, g_0.1.2.1, g_0.1.2.2.1, g_0.2.1, g_0.2.2.1, g_0.2.2.2.1, [], 0, 0, y4.1, y4.2.1, y4.2.2.1, y4.2.2.2.1, y4.2.2.2.2.1, y4.2.2.2.2.2.1, y4.2.2.2.2.2.2.1, y4.2.2.2.2.2.2.2.1, y4.2.2.2.2.2.2.2.2.1, y4.2.2.2.2.2.2.2.2.2.1, y4.2.2.2.2.2.2.2.2.2.2.1, y4.2.2.2.2.2.2.2.2.2.2.2.1, [], ())) (
     chk (inB 0 y2.1.length) (
      let v38 : List UInt8 × Bool × Unit := getAt (Ty.dflt TSsbE) y2.1 0
      ob (bank_Give n (y3, v38, ((y2.1.length : Int) == 1))) fun y39 =>
      chk ((decide (0 <= (1 : Int)) && decide ((1 : Int) <= (y2.1.length : Int)))) (
       let v40 : List (List UInt8 × Bool × Unit) := y2.1.drop (1 : Int).toNat
       fix (stage_Run_loop0b n) n (y1, fuel_3, v40, y2.2, g_0.1.1, g_0.1.2.1, g_0.1.2.2.1, g_0.2.1, g_0.2.2.1, g_0.2.2.2.1, [], 0, 0, y39.1, y39.2.1, y39.2.2.1, y39.2.2.2.1, y39.2.2.2.2.1, y39.2.2.2.2.2.1, y39.2.2.2.2.2.2.1, y39.2.2.2.2.2.2.2.1, y39.2.2.2.2.2.2.2.2.1, y39.2.2.2.2.2.2.2.2.2.1, y39.2.2.2.2.2.2.2.2.2.2.1, y39.2.2.2.2.2.2.2.2.2.2.2.1, [], ()))))) (
    br (decide ((0 : Int) ≥ fuel_3)) (
     some (([], ([], (0, (0, ())))), 4)) (
     let v74 : Int := IntKind.wrap .i64 (0 + 1)
     ob (bank_Step n (g_0.1, g_0.2.1, y3, y1)) fun y75 =>
     chk (Nat.ble (y75.2.2.length * 24) room) (
      fix (stage_Run_loop0bb n) n (y75.2.1, fuel_3, y2.1, y2.2, g_0.1.1, g_0.1.2.1, g_0.1.2.2.1, g_0.2.1, g_0.2.2.1, g_0.2.2.2.1, [], 0, v74, y75.1.1, y75.1.2.1, y75.1.2.2.1, y75.1.2.2.2.1, y75.1.2.2.2.2.1, y75.1.2.2.2.2.2.1, y75.1.2.2.2.2.2.2.1, y75.1.2.2.2.2.2.2.2.1, y75.1.2.2.2.2.2.2.2.2.1, y75.1.2.2.2.2.2.2.2.2.2.1, y75.1.2.2.2.2.2.2.2.2.2.2.1, y75.1.2.2.2.2.2.2.2.2.2.2.2.1, y75.2.2, ()))))))
def law16_StageWrites (n : Nat) (x : List UInt8 × List UInt8) : Option (Bool) :=
 let t0_0 : List UInt8 := x.1
 let was_1 : List UInt8 := x.2
 br (decide ((t0_0.length : Int) > 200)) (
  ob (shown16 n ()) fun y1 =>
  some y1) (
  br (decide ((was_1.length : Int) > 100)) (
   ob (shown16 n ()) fun y2 =>
   some y2) (
   ob (shown16 n ()) fun y3 =>
   br (!y3) (
    ob (shown16 n ()) fun y4 =>
    some y4) (
    ob (stage_Run n (((false, ([], ([(((0, (0, (0, ()))), ((0, (0, (0, ()))), (false, ()))), (119, ([102], ([], (0, (0, ((-1), ([], (false, (false, ()))))))))))], ()))), (true, ([], (false, ())))), t0_0, [([102], (was_1, ()))], 1000)) fun y5 =>
    ob (table_Get n (y5.1.2.1, [102])) fun y6 =>
    br (!(t0_0 == [])) (
     let v7 : Int := IntKind.wrap .i64 ((t0_0.length : Int) - 1)
     chk (inB v7 t0_0.length) (
      let v8 : Int := ((getAt 0 t0_0 v7).toNat : Int)
      br (v8 != 10) (
       chk (decide (t0_0.length + ([10] : List UInt8).length <= maxStr)) (
        br (y5.2 == 0) (
         br y6.2 (
          br (y6.1 == (t0_0 ++ [10])) (
           some ((y5.1.1.length : Int) == 0)) (
           some false)) (
          some false)) (
         some false))) (
       br (y5.2 == 0) (
        br y6.2 (
         br (y6.1 == t0_0) (
          some ((y5.1.1.length : Int) == 0)) (
          some false)) (
         some false)) (
        some false)))) (
     br (y5.2 == 0) (
      br y6.2 (
       br (y6.1 == t0_0) (
        some ((y5.1.1.length : Int) == 0)) (
        some false)) (
       some false)) (
      some false)))))
end
end Go.Dec
