/- Part of a proof over this seat: a library of my own, and what it says of this seat. No statement is proved here. -/
import Derived.Test.YtfpipcafiocdoaaGreatDoorPartAJ
import Derived.Test.YtfpipcafiocdoaaGreatDoorPartBJ
import Derived.Test.YtfpipcafiocdoaaGreatDoorPartBL
import Derived.Test.YtfpipcafiocdoaaGreatDoorPartBA
namespace Go.Dec
set_option linter.unusedVariables false
abbrev wL : Ty:=.pair .str (.pair .str .unit)
def lX (n : Nat) (x : Int) : Option (Bool) :=
 let c_0 : Int := x
 br (decide (c_0 < 97)) (
  br (decide (c_0 < 65)) (
   br (decide (c_0 < 48)) (
    ob (strings_IndexByte n ([95, 45, 46, 47, 44, 58, 61, 43, 64, 37], c_0)) fun y1 =>
    some (decide (y1 < 0))) (
    br (decide (c_0 > 57)) (
     ob (strings_IndexByte n ([95, 45, 46, 47, 44, 58, 61, 43, 64, 37], c_0)) fun y2 =>
     some (decide (y2 < 0))) (
     some false))) (
   br (decide (c_0 > 90)) (
    br (decide (c_0 < 48)) (
     ob (strings_IndexByte n ([95, 45, 46, 47, 44, 58, 61, 43, 64, 37], c_0)) fun y3 =>
     some (decide (y3 < 0))) (
     br (decide (c_0 > 57)) (
      ob (strings_IndexByte n ([95, 45, 46, 47, 44, 58, 61, 43, 64, 37], c_0)) fun y4 =>
      some (decide (y4 < 0))) (
      some false))) (
    some false))) (
  br (decide (c_0 > 122)) (
   br (decide (c_0 < 65)) (
    br (decide (c_0 < 48)) (
     ob (strings_IndexByte n ([95, 45, 46, 47, 44, 58, 61, 43, 64, 37], c_0)) fun y5 =>
     some (decide (y5 < 0))) (
     br (decide (c_0 > 57)) (
      ob (strings_IndexByte n ([95, 45, 46, 47, 44, 58, 61, 43, 64, 37], c_0)) fun y6 =>
      some (decide (y6 < 0))) (
      some false))) (
    br (decide (c_0 > 90)) (
     br (decide (c_0 < 48)) (
      ob (strings_IndexByte n ([95, 45, 46, 47, 44, 58, 61, 43, 64, 37], c_0)) fun y7 =>
      some (decide (y7 < 0))) (
      br (decide (c_0 > 57)) (
       ob (strings_IndexByte n ([95, 45, 46, 47, 44, 58, 61, 43, 64, 37], c_0)) fun y8 =>
       some (decide (y8 < 0))) (
       some false))) (
     some false))) (
   some false))
def bG (n : Nat) (g0 : List (Int) × Int × Int × Unit -> Option (Int × Unit)) (x2 : List (Int) × Int × Int × Unit) : Option (Int × Unit) :=
 let s_3 : List (Int) := x2.1
 let zSm : Int := x2.2.1
 let Vz : Int := x2.2.2.1
 br (decide (Vz < zSm)) (
  chk (inB Vz s_3.length) (
   let v6 : Int := aY (Ty.dflt (.int .u8)) s_3 Vz
   ob (lX n v6) fun y7 =>
   br y7 (
    some (Vz, ())) (
    let v8 : Int := IntKind.wrap .i64 (Vz + 1)
    g0 (s_3, zSm, v8, ())))) (
  some ((-1), ()))
def bP (n : Nat) (x : List (Int) × Unit) : Option (Int × Unit) :=
 let s_1 : List (Int) := x.1
 fix (bG n) n (s_1, (s_1.length : Int), 0, ())
def bD (n : Nat) (x : List (Int) × Unit) : Option (Bool × Unit) :=
 let s_1 : List (Int) := x.1
 ob (bP n (s_1, ())) fun y2 =>
 some ((decide (y2.1 ≥ 0)), ())
def pE (n : Nat) (x : List UInt8) : Option (List UInt8) :=
 let w_0 : List UInt8 := x
 br (!(w_0 == [])) (
  chk (Nat.ble w_0.length room) (
   ob (bD n (aI w_0, ())) fun y1 =>
   br (!y1.1) (
    some w_0) (
    ob (strings_ReplaceAll n (w_0, [39], [39, 92, 39, 39])) fun y2 =>
    chk (decide ([39].length + y2.length <= mR)) (
     chk (decide (([39] ++ y2).length + ([39] : List UInt8).length <= mR)) (
      some (([39] ++ y2) ++ [39])))))) (
  ob (strings_ReplaceAll n (w_0, [39], [39, 92, 39, 39])) fun y3 =>
  chk (decide ([39].length + y3.length <= mR)) (
   chk (decide (([39] ++ y3).length + ([39] : List UInt8).length <= mR)) (
    some (([39] ++ y3) ++ [39]))))
def fO (n : Nat) (g0 : List (List (List UInt8)) × List (List UInt8 × List UInt8 × Unit) × Int × Unit -> Option (Bool)) (g1 : List (List (List UInt8)) × List (List UInt8 × List UInt8 × Unit) × Int × Int × Unit -> Option (Bool)) (x5 : List (List (List UInt8)) × List (List UInt8 × List UInt8 × Unit) × Int × Int × Unit) : Option (Bool) :=
 let l_6 : List (List (List UInt8)) := x5.1
 let t_7 : List (List UInt8 × List UInt8 × Unit) := x5.2.1
 let i_8 : Int := x5.2.2.1
 let k_9 : Int := x5.2.2.2.1
 chk (inB i_8 l_6.length) (
  let v10 : List (List UInt8) := aY (Ty.dflt (.slice .str)) l_6 i_8
  br (decide (k_9 < (v10.length : Int))) (
   chk (inB i_8 l_6.length) (
    let v11 : List (List UInt8) := aY (Ty.dflt (.slice .str)) l_6 i_8
    chk (inB k_9 v11.length) (
     let v12 : List UInt8 := aY (Ty.dflt .str) v11 k_9
     br (decide ((v12.length : Int) > 100)) (
      some false) (
      let v13 : Int := IntKind.wrap .i64 (k_9 + 1)
      g1 (l_6, t_7, i_8, v13, ()))))) (
   chk (inB i_8 l_6.length) (
    let v14 : List (List UInt8) := aY (Ty.dflt (.slice .str)) l_6 i_8
    br (decide ((v14.length : Int) > 12)) (
     some false) (
     let v15 : Int := IntKind.wrap .i64 (i_8 + 1)
     g0 (l_6, t_7, v15, ())))))
def pQ (n : Nat) (g2 : List (List (List UInt8)) × List (List UInt8 × List UInt8 × Unit) × Int × Unit -> Option (Bool)) (x16 : List (List (List UInt8)) × List (List UInt8 × List UInt8 × Unit) × Int × Unit) : Option (Bool) :=
 let zSn : List (List (List UInt8)) := x16.1
 let Ip : List (List UInt8 × List UInt8 × Unit) := x16.2.1
 let Oh : Int := x16.2.2.1
 br (decide (Oh < (Ip.length : Int))) (
  chk (inB Oh Ip.length) (
   let v20 : List UInt8 × List UInt8 × Unit := aY (Ty.dflt wL) Ip Oh
   br (decide ((v20.1.length : Int) > 60)) (
    some false) (
    chk (inB Oh Ip.length) (
     let v21 : List UInt8 × List UInt8 × Unit := aY (Ty.dflt wL) Ip Oh
     br (decide ((v21.2.1.length : Int) > 100)) (
      some false) (
      let v22 : Int := IntKind.wrap .i64 (Oh + 1)
      g2 (zSn, Ip, v22, ())))))) (
  br (decide ((zSn.length : Int) <= 8)) (
   some (decide ((Ip.length : Int) <= 8))) (
   some false))
def dV (n : Nat) (g0 : List (List (List UInt8)) × List (List UInt8 × List UInt8 × Unit) × Int × Unit -> Option (Bool)) (x1 : List (List (List UInt8)) × List (List UInt8 × List UInt8 × Unit) × Int × Unit) : Option (Bool) :=
 let l_2 : List (List (List UInt8)) := x1.1
 let t_3 : List (List UInt8 × List UInt8 × Unit) := x1.2.1
 let i_4 : Int := x1.2.2.1
 br (decide (i_4 < (l_2.length : Int))) (
  fix (fO n g0) n (l_2, t_3, i_4, 0, ())) (
  fix (pQ n) n (l_2, t_3, 0, ()))
def kW (n : Nat) (x : List (List (List UInt8)) × List (List UInt8 × List UInt8 × Unit)) : Option (Bool) :=
 let l_0 : List (List (List UInt8)) := x.1
 let t_1 : List (List UInt8 × List UInt8 × Unit) := x.2
 fix (dV n) n (l_0, t_1, 0, ())
def kQ (n : Nat) (g0 : List (List (List UInt8)) × Int × Int × List (List UInt8) × Unit -> Option (List UInt8 × Int)) (g1 : List (List (List UInt8)) × Int × Int × List (List UInt8) × Int × Int × List (List UInt8) × List (List UInt8) × Unit -> Option (List UInt8 × Int)) (x8 : List (List (List UInt8)) × Int × Int × List (List UInt8) × Int × Int × List (List UInt8) × List (List UInt8) × Unit) : Option (List UInt8 × Int) :=
 let zJw : List (List (List UInt8)) := x8.1
 let zFn : Int := x8.2.1
 let zFo : Int := x8.2.2.1
 let Wd : List (List UInt8) := x8.2.2.2.1
 let zFp : Int := x8.2.2.2.2.1
 let Mc : Int := x8.2.2.2.2.2.1
 let zDl : List (List UInt8) := x8.2.2.2.2.2.2.1
 let zDm : List (List UInt8) := x8.2.2.2.2.2.2.2.1
 br (decide (Mc < zFp)) (
  chk (inB Mc Wd.length) (
   let v17 : List UInt8 := aY (Ty.dflt .str) Wd Mc
   ob (pE n v17) fun y18 =>
   chk (Nat.ble ((zDm.length + ([y18] : List (List UInt8)).length) * 16) room) (
    let v19 : Int := IntKind.wrap .i64 (Mc + 1)
    g1 (zJw, zFn, zFo, Wd, zFp, v19, zDl, zDm ++ [y18], ())))) (
  ob (strings_Join n (zDm, [32])) fun y20 =>
  chk (Nat.ble ((zDl.length + ([y20] : List (List UInt8)).length) * 16) room) (
   let v21 : Int := IntKind.wrap .i64 (zFo + 1)
   g0 (zJw, zFn, v21, zDl ++ [y20], ())))
def iV (n : Nat) (g0 : List (List (List UInt8)) × Int × Int × List (List UInt8) × Unit -> Option (List UInt8 × Int)) (x1 : List (List (List UInt8)) × Int × Int × List (List UInt8) × Unit) : Option (List UInt8 × Int) :=
 let zDn : List (List (List UInt8)) := x1.1
 let zJx : Int := x1.2.1
 let Rt : Int := x1.2.2.1
 let zSo : List (List UInt8) := x1.2.2.2.1
 br (decide (Rt < zJx)) (
  chk (inB Rt zDn.length) (
   let v6 : List (List UInt8) := aY (Ty.dflt (.slice .str)) zDn Rt
   br ((v6.length : Int) == 0) (
    some ([], 1)) (
    chk (inB 0 v6.length) (
     let v7 : List UInt8 := aY (Ty.dflt .str) v6 0
     br (!(v7 == [115, 101, 100])) (
      some ([], 1)) (
      fix (kQ n g0) n (zDn, zJx, Rt, v6, (v6.length : Int), 0, zSo, [], ())))))) (
  ob (strings_Join n (zSo, [32, 124, 32])) fun y22 =>
  some (y22, 0))
def uE (n : Nat) (x : List (List (List UInt8))) : Option (List UInt8 × Int) :=
 let l_0 : List (List (List UInt8)) := x
 fix (iV n) n (l_0, (l_0.length : Int), 0, [], ())
def kR (n : Nat) (g0 : List (List (List UInt8)) × List (List (List UInt8)) × Int × Unit -> Option (Bool)) (g1 : List (List (List UInt8)) × List (List (List UInt8)) × Int × Int × Unit -> Option (Bool)) (x7 : List (List (List UInt8)) × List (List (List UInt8)) × Int × Int × Unit) : Option (Bool) :=
 let a_8 : List (List (List UInt8)) := x7.1
 let b_9 : List (List (List UInt8)) := x7.2.1
 let Dn : Int := x7.2.2.1
 let Oi : Int := x7.2.2.2.1
 chk (inB Dn a_8.length) (
  let v12 : List (List UInt8) := aY (Ty.dflt (.slice .str)) a_8 Dn
  br (decide (Oi < (v12.length : Int))) (
   chk (inB Dn a_8.length) (
    let v13 : List (List UInt8) := aY (Ty.dflt (.slice .str)) a_8 Dn
    chk (inB Oi v13.length) (
     let v14 : List UInt8 := aY (Ty.dflt .str) v13 Oi
     chk (inB Dn b_9.length) (
      let v15 : List (List UInt8) := aY (Ty.dflt (.slice .str)) b_9 Dn
      chk (inB Oi v15.length) (
       let v16 : List UInt8 := aY (Ty.dflt .str) v15 Oi
       br (!(v14 == v16)) (
        some false) (
        let v17 : Int := IntKind.wrap .i64 (Oi + 1)
        g1 (a_8, b_9, Dn, v17, ()))))))) (
   let v18 : Int := IntKind.wrap .i64 (Dn + 1)
   g0 (a_8, b_9, v18, ())))
def iW (n : Nat) (g0 : List (List (List UInt8)) × List (List (List UInt8)) × Int × Unit -> Option (Bool)) (x1 : List (List (List UInt8)) × List (List (List UInt8)) × Int × Unit) : Option (Bool) :=
 let a_2 : List (List (List UInt8)) := x1.1
 let b_3 : List (List (List UInt8)) := x1.2.1
 let i_4 : Int := x1.2.2.1
 br (decide (i_4 < (a_2.length : Int))) (
  chk (inB i_4 a_2.length) (
   let v5 : List (List UInt8) := aY (Ty.dflt (.slice .str)) a_2 i_4
   chk (inB i_4 b_3.length) (
    let v6 : List (List UInt8) := aY (Ty.dflt (.slice .str)) b_3 i_4
    br ((v5.length : Int) != (v6.length : Int)) (
     some false) (
     fix (kR n g0) n (a_2, b_3, i_4, 0, ()))))) (
  some true)
def pF (n : Nat) (x : List (List (List UInt8)) × List (List (List UInt8))) : Option (Bool) :=
 let a_0 : List (List (List UInt8)) := x.1
 let b_1 : List (List (List UInt8)) := x.2
 br ((a_0.length : Int) != (b_1.length : Int)) (
  some false) (
  fix (iW n) n (a_0, b_1, 0, ()))
def qO (n : Nat) (x : List (List (List UInt8))) : Option (Bool) :=
 let l_0 : List (List (List UInt8)) := x
 ob (kW n (l_0, [])) fun y1 =>
 br (!y1) (
  ob (shown21 n ()) fun y2 =>
  some y2) (
  ob (shown21 n ()) fun y3 =>
  br (!y3) (
   ob (shown21 n ()) fun y4 =>
   some y4) (
   ob (uE n l_0) fun y5 =>
   br (y5.2 != 0) (
    some (y5.1 == [])) (
    ob (iT n y5.1) fun y6 =>
    br (y6.2.2 == 0) (
     ob (pF n (l_0, y6.1)) fun y7 =>
     some y7) (
     some false))))
end Go.Dec
namespace Go.Dec
abbrev Me : List UInt8:=[95,45,46,47,44,58,61,43,64,37]
def inM (v : Int) : Bool:=Me.any fun x => (x.toNat : Int) == v
def strange (v : Int) : Bool:=(decide (v < 97) || decide (v > 122)) && ((decide (v < 65) || decide (v > 90)) && ((decide (v < 48) || decide (v > 57)) && !inM v))
def st (c : UInt8) : Bool:=strange (c.toNat : Int)
theorem zSp : ∀ k : Fin 256,decide (Go.Lib.indexByte Me (k.val.toUInt8) < 0) = !(inM (k.val : Int)):=by decide +kernel
theorem zUr (c : UInt8) : decide (Go.Lib.indexByte Me ((c.toNat : Int).toNat.toUInt8) < 0) = !(inM (c.toNat : Int)):=by
 have:=zSp ⟨c.toNat,c.toNat_lt⟩
 simpa using this
theorem zFq (n : Nat) (c : UInt8) : lX n (c.toNat : Int) = some (st c):=by
 unfold lX
 simp only [strings_IndexByte,gZ]
 have h:=zUr c
 simp only [Me] at h
 simp only [h,st,strange]
 generalize hm : inM (c.toNat : Int) = q
 generalize (c.toNat : Int) = v
 by_cases h1 : v < 97 <;> by_cases h2 : v > 122 <;> by_cases h3 : v < 65 <;> by_cases h4 : v > 90 <;> by_cases h5 : v < 48 <;> by_cases h6 : v > 57 <;> simp [h1,h2,h3,h4,h5,h6]
theorem zDo {s pre r : List UInt8} {c : UInt8} (h : s = pre ++ c :: r) : aY (Ty.dflt (.int .u8)) (aI s) (pre.length : Int) = (c.toNat : Int):=by
 have h2 : aI s = aI pre ++ (c.toNat : Int) :: aI r:=by rw [h]; simp [aI]
 have:=eG (d:=Ty.dflt (.int .u8)) h2
 rwa [lW] at this
theorem zSq {n : Nat} {w : List UInt8} (hw : w.length <= 1000) : ∀ (r pre : List UInt8) (m : Nat),w = pre ++ r -> r.length < m ->
  ∃ i : Int,fix (bG n) m (aI w,(w.length : Int),(pre.length : Int),()) = some (i,()) ∧ decide (i ≥ 0) = r.any st:=by
 intro r
 induction r with
 | nil =>
  intro pre m hp hm
  have hp : pre = w:=by simpa using hp.symm
  subst hp
  rw [dM (by omega),bG]
  simp only
  rw [aS (by simp)]
  exact ⟨_,rfl,by decide⟩
 | cons c r ih =>
  intro pre m hp hm
  have hm' : r.length + 1 < m:=hm
  have hlen : w.length = pre.length + r.length + 1:=by rw [hp]; simp; omega
  have hi:=ih (pre ++ [c]) (m - 1) (by rw [hp]; simp) (by omega)
  rw [show ((pre ++ [c]).length : Int) = (pre.length : Int) + 1 by simp] at hi
  rw [dM (by omega),bG]
  simp only
  rw [bR (decide_eq_true (by omega)),aW (by rw [lW]; exact iP (by omega)),zDo hp,zFq]
  simp only [gZ]
  cases hs : st c with
  | true =>
   refine ⟨_,bR rfl _ _,?_⟩
   simp [hs]
  | false =>
   rw [Ci,jK (by omega) (by omega)]
   obtain ⟨i,h1,h2⟩:=hi
   exact ⟨i,h1,by rw [h2]; simp [hs]⟩
theorem zMw {n : Nat} {w : List UInt8} (hw : w.length <= 1000) (hn : w.length < n) : bD n (aI w,()) = some (w.any st,()):=by
 unfold bD bP
 simp only [lW]
 obtain ⟨i,h1,h2⟩:=zSq (n:=n) hw w [] n rfl hn
 simp only [List.length_nil] at h1
 rw [show ((0 : Nat) : Int) = 0 from rfl] at h1
 rw [h1]
 simp only [gZ]
 rw [h2]
abbrev qt : List UInt8:=[39,92,39,39]
def qS (w : List UInt8) : List UInt8:=if (!(w == []) && !(w.any st)) = true then w else [39] ++ bS 39 qt w ++ [39]
theorem Dp (o : UInt8) (new : List UInt8) (h : 1 <= new.length) : ∀ s : List UInt8,(bS o new s).length <= new.length * s.length
 | [] => by simp [bS]
 | c :: r => by
  have ih:=Dp o new h r
  have e : new.length * (c :: r).length = new.length + new.length * r.length:=by simp only [List.length_cons,Nat.mul_add,Nat.mul_one]; omega
  rw [e]
  simp only [bS]
  split
  ·simp only [List.length_append]; omega
  ·simp only [List.length_cons]; omega
theorem zSr (w : List UInt8) : (qS w).length <= 4 * w.length + 2:=by
 unfold qS
 have h:=Dp 39 qt (by simp) w
 simp only [List.length_cons,List.length_nil] at h
 split
 ·omega
 ·simp only [List.length_append,List.length_cons,List.length_nil]; omega
theorem quote_eq {n : Nat} {w : List UInt8} (hw : w.length <= 1000) (hn : w.length < n) : pE n w = some (qS w):=by
 have hr:=Dp 39 qt (by simp) w
 simp only [List.length_cons,List.length_nil] at hr
 simp only [qt] at hr
 have tail : (ob (strings_ReplaceAll n (w,[39],[39,92,39,39])) fun y3 => chk (decide ([39].length + y3.length <= mR)) (chk (decide (([39] ++ y3).length + ([39] : List UInt8).length <= mR)) (some (([39] ++ y3) ++ [39])))) = some ([39] ++ bS 39 qt w ++ [39]):=by
  unfold strings_ReplaceAll
  simp only
  rw [aW (by simp; omega)]
  simp only [gZ]
  rw [aW (decide_eq_true (by simp [mR]; omega)),aW (decide_eq_true (by simp [mR]; omega))]
 unfold pE
 simp only
 cases hz : w == [] with
 | true =>
  rw [aS (by rfl)]
  rw [tail]
  unfold qS
  rw [hz]
  simp
 | false =>
  rw [bR (by rfl),aW (by simp [room]; omega),zMw hw hn]
  simp only [gZ]
  cases ha : w.any st with
  | true =>
   rw [aS (by rfl),tail]
   unfold qS
   rw [hz,ha]
   simp
  | false =>
   rw [bR (by rfl)]
   unfold qS
   rw [hz,ha]
   simp
end Go.Dec
namespace Go.Dec
theorem Dq (sep : List UInt8) (B : Nat) : ∀ (a : List (List UInt8)),(∀ x ∈ a,x.length <= B) -> (dZ a sep).length <= a.length * (B + sep.length)
 | [],_ => by simp [dZ]
 | [y],h => by have:=h y (by simp); simp [dZ]; omega
 | y :: z :: r,h => by
  have ih:=Dq sep B (z :: r) (fun x hx => h x (List.mem_cons_of_mem _ hx))
  have h1:=h y (by simp)
  have e : (y :: z :: r).length * (B + sep.length) = (B + sep.length) + (z :: r).length * (B + sep.length):=by simp only [List.length_cons,Nat.add_mul,Nat.one_mul]; omega
  rw [e]
  simp only [dZ,List.length_append]
  omega
def dO (ws : List (List UInt8)) : List UInt8:=dZ (ws.map qS) [32]
def uF : List (List UInt8) -> Bool
 | [] => false
 | w :: _ => w == [115,101,100]
def kE (ws : List (List UInt8)) : Prop:=ws.length <= 12 ∧ ∀ w ∈ ws,w.length <= 100
theorem zSs {ws : List (List UInt8)} (h : ∀ w ∈ ws,w.length <= 100) : ∀ x ∈ ws.map qS,x.length <= 402:=by
 intro x hx
 obtain ⟨w,hw,rfl⟩:=List.mem_map.1 hx
 have:=zSr w
 have:=h w hw
 omega
theorem Iq {ws : List (List UInt8)} (h : kE ws) : (dO ws).length <= 5000:=by
 have:=Dq [32] 402 (ws.map qS) (zSs h.2)
 have h1:=h.1
 simp only [List.length_map,List.length_cons,List.length_nil] at this
 unfold dO
 have : ws.length * 403 <= 12 * 403:=Nat.mul_le_mul_right _ h1
 omega
theorem Qi {pre : List (List (List UInt8))} (hl : pre.length <= 8) (h : ∀ ws ∈ pre,kE ws) (sep : List UInt8) (hs : sep.length <= 3) : (dZ (pre.map dO) sep).length <= 50000:=by
 have:=Dq sep 5000 (pre.map dO) fun x hx => by
  obtain ⟨w,hw,rfl⟩:=List.mem_map.1 hx
  exact Iq (h w hw)
 simp only [List.length_map] at this
 have h2 : pre.length * (5000 + sep.length) <= 8 * (5000 + sep.length):=Nat.mul_le_mul_right _ hl
 omega
theorem join_eq {n : Nat} {a : List (List UInt8)} {sep : List UInt8} (h1 : a.length <= 1000) (h2 : (dZ a sep).length <= 100000) : strings_Join n (a,sep) = some (dZ a sep):=by
 unfold strings_Join
 simp only
 rw [aW (by simp [room]; omega)]
theorem zSt {n : Nat} (hn : 2000 <= n) {l : List (List (List UInt8))} {row : List (List UInt8)} {L i : Int} {ws : List (List UInt8)} (hw : kE ws) (hr : row.length <= 8) (hi : 0 <= i ∧ i < 100) (g0 : List (List (List UInt8)) × Int × Int × List (List UInt8) × Unit -> Option (List UInt8 × Int)) :
  ∀ (r pre : List (List UInt8)) (m : Nat),ws = pre ++ r -> r.length < m -> fix (kQ n g0) m (l,L,i,ws,(ws.length : Int),(pre.length : Int),row,pre.map qS,()) = g0 (l,L,i + 1,row ++ [dO ws],()):=by
 have hw1:=hw.1
 intro r
 induction r with
 | nil =>
  intro pre m hp hm
  have hp : pre = ws:=by simpa using hp.symm
  subst hp
  have hll:=Iq hw
  rw [dM (by omega),kQ]
  simp only
  rw [aS (by simp),join_eq (by simp; omega) (by have:=Iq hw; unfold dO at this; omega)]
  simp only [gZ]
  rw [aW (by simp [room]; omega),jK (by omega) (by omega)]
  rfl
 | cons c r ih =>
  intro pre m hp hm
  have hm' : r.length + 1 < m:=hm
  have hlen : ws.length = pre.length + r.length + 1:=by rw [hp]; simp; omega
  have hc : c.length <= 100:=hw.2 c (by rw [hp]; simp)
  have h:=ih (pre ++ [c]) (m - 1) (by rw [hp]; simp) (by omega)
  rw [show ((pre ++ [c]).length : Int) = (pre.length : Int) + 1 by simp,List.map_append,List.map_cons,List.map_nil] at h
  rw [dM (by omega),kQ]
  simp only
  rw [bR (decide_eq_true (by omega)),aW (iP (by omega)),eG hp,quote_eq (by omega) (by omega)]
  simp only [gZ]
  rw [aW (by simp [room]; omega),jK (by omega) (by omega)]
  exact h
abbrev Ir : List UInt8:=[32,124,32]
theorem zUs {n : Nat} (hn : 2000 <= n) {l : List (List (List UInt8))} (hl : l.length <= 8) (hs : ∀ ws ∈ l,kE ws) : ∀ (r pre : List (List (List UInt8))) (m : Nat),l = pre ++ r -> r.length < m ->
  fix (iV n) m (l,(l.length : Int),(pre.length : Int),pre.map dO,()) = some (if r.all uF = true then (dZ (l.map dO) Ir,0) else ([],1)):=by
 intro r
 induction r with
 | nil =>
  intro pre m hp hm
  have hp : pre = l:=by simpa using hp.symm
  subst hp
  have hj:=Qi hl hs Ir (by simp)
  rw [dM (by omega),iV]
  simp only
  rw [aS (by simp),join_eq (by simp; omega) (Nat.le_trans hj (by omega))]
  simp [gZ]
 | cons ws r ih =>
  intro pre m hp hm
  have hm' : r.length + 1 < m:=hm
  have hlen : l.length = pre.length + r.length + 1:=by rw [hp]; simp; omega
  have hw : kE ws:=hs ws (by rw [hp]; simp)
  have h:=ih (pre ++ [ws]) (m - 1) (by rw [hp]; simp) (by omega)
  rw [show ((pre ++ [ws]).length : Int) = (pre.length : Int) + 1 by simp,List.map_append,List.map_cons,List.map_nil] at h
  rw [dM (by omega),iV]
  simp only
  rw [bR (decide_eq_true (by omega)),aW (iP (by omega)),eG hp]
  cases ws with
  | nil => rw [bR (by rfl)]; simp [uF]
  | cons w q =>
   rw [aS (by rw [beq_eq_false_iff_ne]; simp only [List.length_cons]; omega),aW (zBr (by omega) (by simp only [List.length_cons]; omega))]
   have hg : aY (Ty.dflt .str) (w :: q) 0 = w:=rfl
   rw [hg]
   cases hh : w == ([115,101,100] : List UInt8) with
   | false => rw [bR (by rfl)]; simp [uF,hh]
   | true =>
    rw [aS (by rfl)]
    have hp1:=zSt hn (l:=l) (row:=pre.map dO) (L:=(l.length : Int)) (i:=(pre.length : Int)) hw (by simp; omega) (by omega) (fix (iV n) (m - 1)) (w :: q) [] n rfl (by have:=hw.1; omega)
    simp only [List.map_nil,List.length_nil] at hp1
    rw [show ((0 : Nat) : Int) = 0 from rfl] at hp1
    rw [hp1,h]
    simp [uF,hh]
def pG : List (List (List UInt8)) -> Nat
 | [] => 0
 | ws :: r => ws.length + 1 + pG r
theorem Qj {ws : List (List UInt8)} : ∀ {l : List (List (List UInt8))},ws ∈ l -> ws.length <= pG l
 | [],h => by cases h
 | a :: r,h => by
  rcases List.mem_cons.1 h with rfl | h
  ·simp only [pG]; omega
  ·have:=Qj h; simp only [pG]; omega
theorem Qk : ∀ (l : List (List (List UInt8))),l.length <= pG l
 | [] => by simp
 | a :: r => by have:=Qk r; simp only [pG,List.length_cons]; omega
theorem zSu {n : Nat} {l : List (List (List UInt8))} {i : Nat} {ws : List (List UInt8)} (hi : i < l.length) (hl : l.length <= maxLen) (hg : aY (Ty.dflt (.slice .str)) l (i : Int) = ws) (hw : ws.length <= maxLen) (g0 : List (List (List UInt8)) × List (List UInt8 × List UInt8 × Unit) × Int × Unit -> Option Bool) :
  ∀ (r pre : List (List UInt8)) (m : Nat),ws = pre ++ r -> r.length < m ->
  fix (fO n g0) m (l,[],(i : Int),(pre.length : Int),()) = some false ∨ ((∀ w ∈ r,w.length <= 100) ∧ ws.length <= 12 ∧ fix (fO n g0) m (l,[],(i : Int),(pre.length : Int),()) = g0 (l,[],(i : Int) + 1,())):=by
 simp only [maxLen] at hl hw
 intro r
 induction r with
 | nil =>
  intro pre m hp hm
  have hp : pre = ws:=by simpa using hp.symm
  subst hp
  rw [dM (by omega),fO]
  simp only
  rw [aW (iP hi),hg,aS (by simp),aW (iP hi)]
  by_cases h12 : (pre.length : Int) > 12
  ·rw [bR (decide_eq_true h12)]
   exact .inl rfl
  ·rw [aS (decide_eq_false h12),jK (by omega) (by omega)]
   exact .inr ⟨(by simp),by omega,rfl⟩
 | cons c r ih =>
  intro pre m hp hm
  have hm' : r.length + 1 < m:=hm
  have hlen : ws.length = pre.length + r.length + 1:=by rw [hp]; simp; omega
  have h:=ih (pre ++ [c]) (m - 1) (by rw [hp]; simp) (by omega)
  rw [show ((pre ++ [c]).length : Int) = (pre.length : Int) + 1 by simp] at h
  rw [dM (by omega),fO]
  simp only
  rw [aW (iP hi),hg,bR (decide_eq_true (by omega)),aW (iP hi),aW (iP (by omega)),eG hp]
  by_cases h1 : (c.length : Int) > 100
  ·rw [bR (decide_eq_true h1)]
   exact .inl rfl
  ·rw [aS (decide_eq_false h1),jK (by omega) (by omega)]
   rcases h with h | ⟨h2,h3,h4⟩
   ·exact .inl h
   ·refine .inr ⟨fun w hw => ?_,h3,h4⟩
    rcases List.mem_cons.1 hw with rfl | hw
    ·omega
    ·exact h2 w hw
theorem zUt {n : Nat} {l : List (List (List UInt8))} (hl : l.length <= maxLen) (hls : ∀ ws ∈ l,ws.length <= maxLen) (hn : pG l < n) : ∀ (r pre : List (List (List UInt8))) (m : Nat),l = pre ++ r -> r.length < m -> (∀ ws ∈ pre,kE ws) ->
  fix (dV n) m (l,[],(pre.length : Int),()) = some false ∨ (fix (dV n) m (l,[],(pre.length : Int),()) = some true ∧ l.length <= 8 ∧ ∀ ws ∈ l,kE ws):=by
 have hl2:=hl
 simp only [maxLen] at hl2
 intro r
 induction r with
 | nil =>
  intro pre m hp hm hall
  have hp : pre = l:=by simpa using hp.symm
  subst hp
  rw [dM (by omega),dV]
  simp only
  rw [aS (by simp),dM (by omega),pQ]
  simp only
  rw [aS (by simp)]
  by_cases h8 : (pre.length : Int) <= 8
  ·rw [bR (decide_eq_true h8)]
   exact .inr ⟨rfl,by omega,hall⟩
  ·rw [aS (decide_eq_false h8)]
   exact .inl rfl
 | cons ws r ih =>
  intro pre m hp hm hall
  have hm' : r.length + 1 < m:=hm
  have hlen : l.length = pre.length + r.length + 1:=by rw [hp]; simp; omega
  have hmem : ws ∈ l:=by rw [hp]; simp
  have hws:=Qj hmem
  rw [dM (by omega),dV]
  simp only
  rw [bR (decide_eq_true (by omega))]
  have hb:=zSu (n:=n) (i:=pre.length) (by omega) hl (eG (d:=Ty.dflt (.slice .str)) hp) (hls ws hmem) (fix (dV n) (m - 1)) ws [] n rfl (by omega)
  simp only [List.length_nil] at hb
  rw [show ((0 : Nat) : Int) = 0 from rfl] at hb
  rcases hb with hb | ⟨h1,h2,hb⟩
  ·exact .inl hb
  ·rw [hb]
   have h:=ih (pre ++ [ws]) (m - 1) (by rw [hp]; simp) (by omega) (fun v hv => by
    rcases List.mem_append.1 hv with hv | hv
    ·exact hall v hv
    ·simp only [List.mem_singleton] at hv
     subst hv
     exact ⟨h2,h1⟩)
   rw [show ((pre ++ [ws]).length : Int) = (pre.length : Int) + 1 by simp] at h
   exact h
end Go.Dec
