/- Part of a proof over this seat: a library of my own, and what it says of this seat. No statement is proved here. -/
import Derived.Test.YtfpipcafiocdoaaGreatDoorPartAJ
import Derived.Test.YtfpipcafiocdoaaGreatDoorPartBJ
import Derived.Test.YtfpipcafiocdoaaGreatDoorPartBL
import Derived.Test.YtfpipcafiocdoaaGreatDoorPartBA
namespace Go.Dec
set_option linter.unusedVariables false
abbrev zHe : Ty := .pair .str (.pair .str .unit)
def kZ (n : Nat) (x : Int) : Option (Bool) :=
 let c_0 : Int := x
 br (decide (c_0 < 97)) (
  br (decide (c_0 < 65)) (
   br (decide (c_0 < 48)) (
    ob (strings_IndexByte n ([95, 45, 46, 47, 44, 58, 61, 43, 64, 37], c_0)) fun y1 =>
    some (decide (y1 < 0))) (
    br (decide (c_0 > 57)) (
     ob (strings_IndexByte n ([95, 45, 46, 47, 44, 58, 61, 43, 64, 37], c_0)) fun y2 =>
     some (decide (y2 < 0))) (
     some false))) (
   br (decide (c_0 > 90)) (
    br (decide (c_0 < 48)) (
     ob (strings_IndexByte n ([95, 45, 46, 47, 44, 58, 61, 43, 64, 37], c_0)) fun y3 =>
     some (decide (y3 < 0))) (
     br (decide (c_0 > 57)) (
      ob (strings_IndexByte n ([95, 45, 46, 47, 44, 58, 61, 43, 64, 37], c_0)) fun y4 =>
      some (decide (y4 < 0))) (
      some false))) (
    some false))) (
  br (decide (c_0 > 122)) (
   br (decide (c_0 < 65)) (
    br (decide (c_0 < 48)) (
     ob (strings_IndexByte n ([95, 45, 46, 47, 44, 58, 61, 43, 64, 37], c_0)) fun y5 =>
     some (decide (y5 < 0))) (
     br (decide (c_0 > 57)) (
      ob (strings_IndexByte n ([95, 45, 46, 47, 44, 58, 61, 43, 64, 37], c_0)) fun y6 =>
      some (decide (y6 < 0))) (
      some false))) (
    br (decide (c_0 > 90)) (
     br (decide (c_0 < 48)) (
      ob (strings_IndexByte n ([95, 45, 46, 47, 44, 58, 61, 43, 64, 37], c_0)) fun y7 =>
      some (decide (y7 < 0))) (
      br (decide (c_0 > 57)) (
       ob (strings_IndexByte n ([95, 45, 46, 47, 44, 58, 61, 43, 64, 37], c_0)) fun y8 =>
       some (decide (y8 < 0))) (
       some false))) (
     some false))) (
   some false))
def bD (n : Nat) (g0 : List (Int) × Int × Int × Unit -> Option (Int × Unit)) (x2 : List (Int) × Int × Int × Unit) : Option (Int × Unit) :=
 let s_3 : List (Int) := x2.1
 let zPu : Int := x2.2.1
 let Ve : Int := x2.2.2.1
 br (decide (Ve < zPu)) (
  chk (inB Ve s_3.length) (
   let v6 : Int := bH (Ty.dflt (.int .u8)) s_3 Ve
   ob (kZ n v6) fun y7 =>
   br y7 (
    some (Ve, ())) (
    let v8 : Int := IntKind.wrap .i64 (Ve + 1)
    g0 (s_3, zPu, v8, ())))) (
  some ((-1), ()))
def bM (n : Nat) (x : List (Int) × Unit) : Option (Int × Unit) :=
 let s_1 : List (Int) := x.1
 fix (bD n) n (s_1, (s_1.length : Int), 0, ())
def bA (n : Nat) (x : List (Int) × Unit) : Option (Bool × Unit) :=
 let s_1 : List (Int) := x.1
 ob (bM n (s_1, ())) fun y2 =>
 some ((decide (y2.1 ≥ 0)), ())
def lU (n : Nat) (x : List UInt8) : Option (List UInt8) :=
 let w_0 : List UInt8 := x
 br (!(w_0 == [])) (
  chk (Nat.ble w_0.length room) (
   ob (bA n (aI w_0, ())) fun y1 =>
   br (!y1.1) (
    some w_0) (
    ob (strings_ReplaceAll n (w_0, [39], [39, 92, 39, 39])) fun y2 =>
    chk (decide ([39].length + y2.length <= fE)) (
     chk (decide (([39] ++ y2).length + ([39] : List UInt8).length <= fE)) (
      some (([39] ++ y2) ++ [39])))))) (
  ob (strings_ReplaceAll n (w_0, [39], [39, 92, 39, 39])) fun y3 =>
  chk (decide ([39].length + y3.length <= fE)) (
   chk (decide (([39] ++ y3).length + ([39] : List UInt8).length <= fE)) (
    some (([39] ++ y3) ++ [39]))))
def mZ (n : Nat) (x : List UInt8 × List UInt8) : Option (Bool) :=
 let a_0 : List UInt8 := x.1
 let b_1 : List UInt8 := x.2
 br (decide ((a_0.length : Int) > 100)) (
  ob (shown21 n ()) fun y1 =>
  some y1) (
  br (decide ((b_1.length : Int) > 100)) (
   ob (shown21 n ()) fun y2 =>
   some y2) (
   ob (shown21 n ()) fun y3 =>
   br (!y3) (
    ob (shown21 n ()) fun y4 =>
    some y4) (
    ob (lU n a_0) fun y5 =>
    chk (decide ([115, 101, 100, 32].length + y5.length <= fE)) (
     ob (lU n b_1) fun y6 =>
     chk (decide (([115, 101, 100, 32] ++ y5).length + y6.length <= fE)) (
      let v7 : List UInt8 := ([115, 101, 100, 32] ++ y5) ++ y6
      chk (decide (v7.length + ([32, 120] : List UInt8).length <= fE)) (
       ob (kY n (v7 ++ [32, 120])) fun y8 =>
       br (y8.2.2 == 0) (
        br ((y8.1.length : Int) == 1) (
         chk (inB 0 y8.1.length) (
          let v9 : List (List UInt8) := bH (Ty.dflt (.slice .str)) y8.1 0
          br ((v9.length : Int) == 3) (
           chk (inB 0 y8.1.length) (
            let v10 : List (List UInt8) := bH (Ty.dflt (.slice .str)) y8.1 0
            chk (inB 1 v10.length) (
             let v11 : List UInt8 := bH (Ty.dflt .str) v10 1
             chk (decide (a_0.length + b_1.length <= fE)) (
              br (v11 == (a_0 ++ b_1)) (
               chk (inB 0 y8.1.length) (
                let v12 : List (List UInt8) := bH (Ty.dflt (.slice .str)) y8.1 0
                chk (inB 2 v12.length) (
                 let v13 : List UInt8 := bH (Ty.dflt .str) v12 2
                 some (v13 == [120])))) (
               some false))))) (
           some false))) (
         some false)) (
        some false)))))))
end Go.Dec
namespace Go.Dec
abbrev Kh : List UInt8 := [95, 45, 46, 47, 44, 58, 61, 43, 64, 37]
def inM (v : Int) : Bool := Kh.any fun x => (x.toNat : Int) == v
def strange (v : Int) : Bool := (decide (v < 97) || decide (v > 122)) && ((decide (v < 65) || decide (v > 90)) && ((decide (v < 48) || decide (v > 57)) && !inM v))
def st (c : UInt8) : Bool := strange (c.toNat : Int)
theorem zPv : ∀ k : Fin 256, decide (Go.Lib.indexByte Kh (k.val.toUInt8) < 0) = !(inM (k.val : Int)) := by decide +kernel
theorem zRu (c : UInt8) : decide (Go.Lib.indexByte Kh ((c.toNat : Int).toNat.toUInt8) < 0) = !(inM (c.toNat : Int)) := by
 have := zPv ⟨c.toNat, c.toNat_lt⟩
 simpa using this
theorem zDf (n : Nat) (c : UInt8) : kZ n (c.toNat : Int) = some (st c) := by
 unfold kZ
 simp only [strings_IndexByte, kH]
 have h := zRu c
 simp only [Kh] at h
 simp only [h, st, strange]
 generalize hm : inM (c.toNat : Int) = q
 generalize (c.toNat : Int) = v
 by_cases h1 : v < 97 <;> by_cases h2 : v > 122 <;> by_cases h3 : v < 65 <;> by_cases h4 : v > 90 <;> by_cases h5 : v < 48 <;> by_cases h6 : v > 57 <;> simp [h1, h2, h3, h4, h5, h6]
theorem zBi {s pre r : List UInt8} {c : UInt8} (h : s = pre ++ c :: r) : bH (Ty.dflt (.int .u8)) (aI s) (pre.length : Int) = (c.toNat : Int) := by
 have h2 : aI s = aI pre ++ (c.toNat : Int) :: aI r := by rw [h]; simp [aI]
 have := nJ (d := Ty.dflt (.int .u8)) h2
 rwa [jM] at this
theorem zPw {n : Nat} {w : List UInt8} (hw : w.length <= 1000) : ∀ (r pre : List UInt8) (m : Nat), w = pre ++ r -> r.length < m ->
  ∃ i : Int, fix (bD n) m (aI w, (w.length : Int), (pre.length : Int), ()) = some (i, ()) ∧ decide (i ≥ 0) = r.any st := by
 intro r
 induction r with
 | nil =>
  intro pre m hp hm
  have hp : pre = w := by simpa using hp.symm
  subst hp
  rw [wI (by omega), bD]
  simp only
  rw [bP (by simp)]
  exact ⟨_, rfl, by decide⟩
 | cons c r ih =>
  intro pre m hp hm
  have hm' : r.length + 1 < m := hm
  have hlen : w.length = pre.length + r.length + 1 := by rw [hp]; simp; omega
  have hi := ih (pre ++ [c]) (m - 1) (by rw [hp]; simp) (by omega)
  rw [show ((pre ++ [c]).length : Int) = (pre.length : Int) + 1 by simp] at hi
  rw [wI (by omega), bD]
  simp only
  rw [eX (decide_eq_true (by omega)), bE (by rw [jM]; exact Fa (by omega)), zBi hp, zDf]
  simp only [kH]
  cases hs : st c with
  | true =>
   refine ⟨_, eX rfl _ _, ?_⟩
   simp [hs]
  | false =>
   rw [Ez, qA (by omega) (by omega)]
   obtain ⟨i, h1, h2⟩ := hi
   exact ⟨i, h1, by rw [h2]; simp [hs]⟩
theorem zKe {n : Nat} {w : List UInt8} (hw : w.length <= 1000) (hn : w.length < n) : bA n (aI w, ()) = some (w.any st, ()) := by
 unfold bA bM
 simp only [jM]
 obtain ⟨i, h1, h2⟩ := zPw (n := n) hw w [] n rfl hn
 simp only [List.length_nil] at h1
 rw [show ((0 : Nat) : Int) = 0 from rfl] at h1
 rw [h1]
 simp only [kH]
 rw [h2]
abbrev qt : List UInt8 := [39, 92, 39, 39]
def qS (w : List UInt8) : List UInt8 := if (!(w == []) && !(w.any st)) = true then w else [39] ++ bR 39 qt w ++ [39]
theorem Bz (o : UInt8) (new : List UInt8) (h : 1 <= new.length) : ∀ s : List UInt8, (bR o new s).length <= new.length * s.length
 | [] => by simp [bR]
 | c :: r => by
  have ih := Bz o new h r
  have e : new.length * (c :: r).length = new.length + new.length * r.length := by simp only [List.length_cons, Nat.mul_add, Nat.mul_one]; omega
  rw [e]
  simp only [bR]
  split
  ·simp only [List.length_append]; omega
  ·simp only [List.length_cons]; omega
theorem Ki (w : List UInt8) : (qS w).length <= 4 * w.length + 2 := by
 unfold qS
 have h := Bz 39 qt (by simp) w
 simp only [List.length_cons, List.length_nil] at h
 split
 ·omega
 ·simp only [List.length_append, List.length_cons, List.length_nil]; omega
theorem quote_eq {n : Nat} {w : List UInt8} (hw : w.length <= 1000) (hn : w.length < n) : lU n w = some (qS w) := by
 have hr := Bz 39 qt (by simp) w
 simp only [List.length_cons, List.length_nil] at hr
 simp only [qt] at hr
 have tail : (ob (strings_ReplaceAll n (w, [39], [39, 92, 39, 39])) fun y3 => chk (decide ([39].length + y3.length <= fE)) (chk (decide (([39] ++ y3).length + ([39] : List UInt8).length <= fE)) (some (([39] ++ y3) ++ [39])))) = some ([39] ++ bR 39 qt w ++ [39]) := by
  unfold strings_ReplaceAll
  simp only
  rw [bE (by simp; omega)]
  simp only [kH]
  rw [bE (decide_eq_true (by simp [fE]; omega)), bE (decide_eq_true (by simp [fE]; omega))]
 unfold lU
 simp only
 cases hz : w == [] with
 | true =>
  rw [bP (by rfl)]
  rw [tail]
  unfold qS
  rw [hz]
  simp
 | false =>
  rw [eX (by rfl), bE (by simp [room]; omega), zKe hw hn]
  simp only [kH]
  cases ha : w.any st with
  | true =>
   rw [bP (by rfl), tail]
   unfold qS
   rw [hz, ha]
   simp
  | false =>
   rw [eX (by rfl)]
   unfold qS
   rw [hz, ha]
   simp
end Go.Dec
namespace Go.Dec
end Go.Dec
