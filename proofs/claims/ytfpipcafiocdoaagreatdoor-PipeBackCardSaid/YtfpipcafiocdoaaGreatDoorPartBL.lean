/- Part of a proof over this seat: a library of my own, and what it says of this seat. No statement is proved here. -/
import Derived.Test.YtfpipcafiocdoaaGreatDoorPartBJ
import Derived.Test.YtfpipcafiocdoaaGreatDoorPartBK
import Derived.KernelRfl
import Derived.Test.YtfpipcafiocdoaaGreatDoorPartAJ
import Derived.Test.YtfpipcafiocdoaaGreatDoorPartBA
namespace Go.Dec
open Go.Proofs Go.RowKit Go.Sort Go.Lib
abbrev Dj : List Ty:=[.str,.str]
abbrev Dk : List Ty:=[.str,.str,.bool]
abbrev jM : List Ty:=[.str,.int .u8]
abbrev jN : List Ty:=[.int .i64]
abbrev Ap : List Ty:=[.slice .str,.str]
abbrev sJ : List Ty:=[.str]
abbrev pK : List Ty:=[.str,.str,.str]
abbrev pO : List Ty:=[.str]
theorem Ls {w w' : World} (h : Below w.heap.size w w') : Keep (fun _ _ => False) w w':=Keep.nR (M:=fun _ => False) h.size (fun b hb _ => h.block b hb) (fun _ _ h => h)
theorem Gc {w : World} (hG : Glob Tryz.prog w) : ∃ m : Int,w.cell? ⟨0,0,none⟩ = some (.int .i64 m) :=
 hG 0 (Tryz.prog.globals[0]'(by decide +kernel)) (by rw [Array.getElem?_eq_getElem]) (.int .i64) (by kernel_rfl)
theorem Ij (n : Nat) : Pure Tryz.prog 29 Dj Dk (strings_Cut n):=by
 refine ⟨by kernel_rfl,fun x y hF w N xs hG _ hx => ?_⟩
 obtain ⟨hc,hy⟩:=jR hF
 have hc:=of_decide_eq_true hc
 obtain rfl:=Option.some.inj hy
 obtain ⟨u,us,rfl,h1,v,rfl,h2⟩:=hx
 simp only [Ty.fK,Ty.isAgg,Bool.false_eq_true,if_false,Ty.Rel,List.cons.injEq,and_true] at h1 h2
 subst h1 h2
 obtain ⟨m,hm⟩:=Gc hG
 refine (Tryz.strings_Cut _ _ m w (by simpa [ByteArray.size] using hc) hm).mono ?_
 rintro e w' ⟨rfl,k,rfl⟩
 refine ⟨[_,_,_],rfl,rfl,rfl,rfl,Keep.nR (M:=fun _ => False) (Nat.le_refl _) (fun _ _ _ => rfl) (fun _ _ h => h),⟨_,_,rfl,?_,_,_,rfl,?_,_,rfl,?_⟩⟩ <;> simp [Ty.fK,Ty.isAgg,Ty.Rel]
theorem jT (n : Nat) : Pure Tryz.prog 28 jM jN (strings_IndexByte n):=by
 refine ⟨by kernel_rfl,fun x y hF w N xs hG _ hx => ?_⟩
 obtain rfl:=Option.some.inj hF
 obtain ⟨u,us,rfl,h1,v,rfl,h2⟩:=hx
 simp only [Ty.fK,Ty.isAgg,Bool.false_eq_true,if_false,Ty.Rel,List.cons.injEq,and_true] at h1 h2
 subst h1 h2
 refine (Tryz.strings_IndexByte _ _ w).mono ?_
 rintro e w' ⟨rfl,rfl⟩
 exact ⟨[_],rfl,rfl,rfl,rfl,Keep.refl _ _,_,rfl,by simp [Ty.fK,Ty.isAgg,Ty.Rel]⟩
theorem Vt {w : World} {N : Nat -> Nat -> Prop} : ∀ {xs : List (List UInt8)} {css : List (List Value)},aJ (fun x c => Ty.str.Rel w N x c) xs css -> css = xs.map fun x => [Value.string ⟨x.toArray⟩]
 | [],[],_ => rfl
 | x :: xs,c :: css,h => by
  obtain ⟨h1,h2⟩:=h
  simp only [Ty.Rel] at h1
  subst h1
  rw [List.map_cons,Vt h2]
 | [],_ :: _,h => h.elim
 | _ :: _,[],h => h.elim
theorem zIr : ∀ (xs : List (List UInt8)) (sep : List UInt8),dZ xs sep = Go.Lib.join xs sep:=by
 intro xs sep
 induction xs with
 | nil => rfl
 | cons x r ih =>
  cases r with
  | nil => simp [dZ,Go.Lib.join]
  | cons y r => rw [dZ,ih]; simp [Go.Lib.join]
theorem Eu (n : Nat) : Pure Tryz.prog 25 Ap sJ (strings_Join n):=by
 refine ⟨by kernel_rfl,fun x y hF w N vs hG _ hx => ?_⟩
 obtain ⟨xs,sep⟩:=x
 obtain ⟨hc,hy⟩:=jR hF
 obtain rfl:=Option.some.inj hy
 simp only [Bool.and_eq_true] at hc
 have hc1:=Nat.le_of_ble_eq_true hc.1
 have hc2:=Nat.le_of_ble_eq_true hc.2
 simp only [room] at hc1 hc2
 obtain ⟨u,us,rfl,h1,v,rfl,h2⟩:=hx
 simp only [Ty.fK,Ty.isAgg,Bool.false_eq_true,if_false,Ty.Rel,List.cons.injEq,and_true] at h1 h2
 subst h2
 obtain ⟨_,rfl,h1⟩:=h1
 have out : ∀ {e : Ending} {w' : World},e = .returned (.string ⟨(dZ xs sep).toArray⟩) -> Below w.heap.size w w' -> ∃ us : List Value,e = .returned (kU us) ∧ w'.os = w.os ∧ w'.tape = w.tape ∧ w'.output = w.output ∧ Keep (fun _ _ => False) w w' ∧ DensRel w' N sJ (dZ xs sep) us:=by
  rintro e w' rfl hb
  exact ⟨[_],rfl,hb.os,hb.tape,hb.output,Ls hb,_,rfl,by simp [Ty.fK,Ty.isAgg,Ty.Rel]⟩
 rcases h1 with ⟨rfl,rfl⟩ | ⟨b,off,cap,css,rfl,hb,_,hl,_,hall,_,hcs⟩ | ⟨a,cap,rfl,rfl,_⟩
 ·refine (Tryz.strings_Join_none none 0 _ w).mono ?_
  rintro e w' ⟨rfl,rfl⟩
  exact out rfl (Below.refl _ _)
 ·have zGt:=Vt (w:=w) (N:=N) hall
  have hj : Go.Lib.join ((xs.map fun x => (⟨x.toArray⟩ : ByteArray)).map (·.data.toList)) sep = dZ xs sep:=by
   rw [zIr,List.map_map]
   congr 1
   exact List.map_id xs
  have hcell : ∀ (j : Nat) (x : ByteArray),(xs.map fun x => (⟨x.toArray⟩ : ByteArray))[j]? = some x -> w.cell? ⟨b,off + j,none⟩ = some (.string x):=by
   intro j x hjx
   refine hcs j (.string x) ?_
   rw [zGt]
   rw [List.getElem?_map] at hjx
   have : ∀ (l : List (List UInt8)) (j : Nat),((l.map fun x => [Value.string ⟨x.toArray⟩]).flatten)[j]? = (l[j]?).map fun x => Value.string ⟨x.toArray⟩:=by
    intro l
    induction l with
    | nil => intro j; simp
    | cons a l ih => intro j; cases j with
     | zero => simp
     | succ j => simpa using ih j
   rw [this]
   cases hx : xs[j]? with
   | none => rw [hx] at hjx; cases hjx
   | some z => rw [hx] at hjx; simp at hjx; subst hjx; rfl
  have:=Tryz.strings_Join b off cap (xs.map fun x => (⟨x.toArray⟩ : ByteArray)) ⟨sep.toArray⟩ w hcell hb (by simpa using hc1) (by simpa using hl) (by rw [show (⟨sep.toArray⟩ : ByteArray).data.toList = sep by simp]; rw [hj]; exact hc2)
  rw [List.length_map] at this
  refine this.mono ?_
  rintro e w' ⟨rfl,hb'⟩
  refine out ?_ hb'
  rw [show (⟨sep.toArray⟩ : ByteArray).data.toList = sep by simp,hj]
 ·refine (Tryz.strings_Join_none (some a) cap _ w).mono ?_
  rintro e w' ⟨rfl,rfl⟩
  exact out rfl (Below.refl _ _)
theorem vL (n : Nat) : Pure Tryz.prog 33 pK pO (strings_ReplaceAll n):=by
 refine ⟨by kernel_rfl,fun x y hF w N vs hG _ hx => ?_⟩
 obtain ⟨s,o,new⟩:=x
 match o,hF with
 | [o],hF =>
  obtain ⟨hc,hy⟩:=jR hF
  obtain rfl:=Option.some.inj hy
  simp only [Bool.and_eq_true] at hc
  have hc1 : s.length <= 1000000:=Nat.le_of_ble_eq_true hc.1
  have hc2 : new.length <= 1000:=Nat.le_of_ble_eq_true hc.2
  obtain ⟨u,us,rfl,h1,v,vs,rfl,h2,z,rfl,h3⟩:=hx
  simp only [Ty.fK,Ty.isAgg,Bool.false_eq_true,if_false,Ty.Rel,List.cons.injEq,and_true] at h1 h2 h3
  subst h1 h2 h3
  obtain ⟨m,hm⟩:=Gc hG
  have hcnt:=Go.Lib.countB_mul_le (⟨[o].toArray⟩ : ByteArray) (by simp [ByteArray.size]) _ (⟨s.toArray⟩ : ByteArray) (Nat.le_refl _)
  have hs1 : (⟨s.toArray⟩ : ByteArray).size = s.length:=by simp [ByteArray.size]
  have ho1 : (⟨[o].toArray⟩ : ByteArray).size = 1:=by simp [ByteArray.size]
  have hn1 : (⟨new.toArray⟩ : ByteArray).size = new.length:=by simp [ByteArray.size]
  rw [hs1,ho1,Nat.mul_one] at hcnt
  have hmul : Go.Lib.countB (⟨s.toArray⟩ : ByteArray) ⟨[o].toArray⟩ * new.length <= 1000000 * 1000:=Nat.mul_le_mul (by omega) hc2
  refine (Tryz.strings_ReplaceAll _ _ _ m w (by rw [hs1]; omega) hm (by rw [ho1]; omega) (by rw [hs1,hn1]; omega)).mono ?_
  rintro e w' ⟨rfl,hb⟩
  refine ⟨[_],rfl,hb.os,hb.tape,hb.output,Ls hb,_,rfl,?_⟩
  have:=Oe o new s
  simp [Ty.fK,Ty.isAgg,Ty.Rel,this]
end Go.Dec
namespace Go.Dec
set_option linter.unusedVariables false
def fV (n : Nat) (x : Bool × List (List UInt8) × List (Int) × Unit) : Option (Bool × List (List UInt8) × List (Int) × Unit) :=
 let b1 : Bool := x.1
 let zIs : List (List UInt8) := x.2.1
 let mP : List (Int) := x.2.2.1
 br b1 (
  chk (Nat.ble ((zIs.length + ([fC mP] : List (List UInt8)).length) * 16) room) (
   some (false, zIs ++ [fC mP], mP, ()))) (
  some (false, zIs, mP, ()))
def bT (n : Nat) (x : Bool × Int × List (List UInt8) × List (Int) × Unit) : Option (Bool × Int × List (List UInt8) × List (Int) × Unit) :=
 let b1 : Bool := x.1
 let b2 : Int := x.2.1
 let mP : List (List UInt8) := x.2.2.1
 let oU : List (Int) := x.2.2.2.1
 br (!b1) (
  let v5 : Int := ((mP.length : Nat) : Int)
  br (v5 == 0) (
   chk (Nat.ble ((oU.length + ([b2] : List (Int)).length) * 8) room) (
    some (true, b2, mP, oU ++ [b2], ()))) (
   some (true, b2, mP, oU, ()))) (
  some (true, b2, mP, oU, ()))
def Ay (n : Nat) (g0 : List UInt8 × Int × List (Int) × Unit -> Option (List (Int) × Int × Int)) (x1 : List UInt8 × Int × List (Int) × Unit) : Option (List (Int) × Int × Int) :=
 let s_2 : List UInt8 := x1.1
 let i_3 : Int := x1.2.1
 let oU : List (Int) := x1.2.2.1
 br (decide (i_3 < (s_2.length : Int))) (
  chk (inB i_3 s_2.length) (
   let v5 : Int := ((aY 0 s_2 i_3).toNat : Int)
   br (v5 == 34) (
    let v6 : Int := IntKind.wrap .i64 (i_3 + 1)
    some (oU, v6, (-1))) (
    ob (strings_IndexByte n ([36, 96], v5)) fun y7 =>
    br (decide (y7 ≥ 0)) (
     some ([], 0, i_3)) (
     br (v5 == 92) (
      let v8 : Int := IntKind.wrap .i64 (i_3 + 1)
      br (decide (v8 < (s_2.length : Int))) (
       let v9 : Int := IntKind.wrap .i64 (i_3 + 1)
       chk (inB v9 s_2.length) (
        let v10 : Int := ((aY 0 s_2 v9).toNat : Int)
        ob (strings_IndexByte n ([36, 34, 92, 96], v10)) fun y11 =>
        br (decide (y11 ≥ 0)) (
         let v12 : Int := IntKind.wrap .i64 (i_3 + 1)
         chk (inB v12 s_2.length) (
          let v13 : Int := ((aY 0 s_2 v12).toNat : Int)
          chk (Nat.ble ((oU.length + ([v13] : List (Int)).length) * 1) room) (
           let v14 : Int := IntKind.wrap .i64 (v12 + 1)
           g0 (s_2, v14, oU ++ [v13], ())))) (
         chk (inB i_3 s_2.length) (
          let v15 : Int := ((aY 0 s_2 i_3).toNat : Int)
          chk (Nat.ble ((oU.length + ([v15] : List (Int)).length) * 1) room) (
           let v16 : Int := IntKind.wrap .i64 (i_3 + 1)
           g0 (s_2, v16, oU ++ [v15], ())))))) (
       chk (inB i_3 s_2.length) (
        let v17 : Int := ((aY 0 s_2 i_3).toNat : Int)
        chk (Nat.ble ((oU.length + ([v17] : List (Int)).length) * 1) room) (
         let v18 : Int := IntKind.wrap .i64 (i_3 + 1)
         g0 (s_2, v18, oU ++ [v17], ()))))) (
      chk (inB i_3 s_2.length) (
       let v19 : Int := ((aY 0 s_2 i_3).toNat : Int)
       chk (Nat.ble ((oU.length + ([v19] : List (Int)).length) * 1) room) (
        let v20 : Int := IntKind.wrap .i64 (i_3 + 1)
        g0 (s_2, v20, oU ++ [v19], ())))))))) (
  some ([], 0, (-2)))
def sK (n : Nat) (x : List UInt8) : Option (List (Int) × Int × Int) :=
 let s_0 : List UInt8 := x
 fix (Ay n) n (s_0, 0, [], ())
def rY (n : Nat) (g0 : List UInt8 × List (List (List UInt8)) × Bool × Int × List (List UInt8) × List (Int) × List (Int) × Unit -> Option (List (List (List UInt8)) × Int × Int)) (x50 : List UInt8 × List (List (List UInt8)) × Bool × Int × List (List UInt8) × List (Int) × List (Int) × Unit) : Option (List (List (List UInt8)) × Int × Int) :=
 let zIt : List UInt8 := x50.1
 let zUm : List (List (List UInt8)) := x50.2.1
 let b53 : Bool := x50.2.2.1
 let b54 : Int := x50.2.2.2.1
 let zUn : List (List UInt8) := x50.2.2.2.2.1
 let zUo : List (Int) := x50.2.2.2.2.2.1
 let zJt : List (Int) := x50.2.2.2.2.2.2.1
 ob (bT n (b53, b54, zUn, zUo, ())) fun y58 =>
 let v59 : Int := IntKind.wrap .i64 (y58.2.1 + 1)
 chk (inB v59 zIt.length) (
  let v60 : Int := ((aY 0 zIt v59).toNat : Int)
  chk (Nat.ble ((zJt.length + ([v60] : List (Int)).length) * 1) room) (
   let v61 : Int := IntKind.wrap .i64 (y58.2.1 + 2)
   g0 (zIt, zUm, y58.1, v61, y58.2.2.1, y58.2.2.2.1, zJt ++ [v60], ())))
def eH (n : Nat) (g0 : List UInt8 × List (List (List UInt8)) × Bool × Int × List (List UInt8) × List (Int) × List (Int) × Unit -> Option (List (List (List UInt8)) × Int × Int)) (x25 : List UInt8 × Int × Bool × List (List (List UInt8)) × Bool × Int × List (List UInt8) × List (Int) × List (Int) × Unit) : Option (List (List (List UInt8)) × Int × Int) :=
 let vK : List UInt8 := x25.1
 let Vu : Int := x25.2.1
 let zSj : Bool := x25.2.2.1
 let Rp : List (List (List UInt8)) := x25.2.2.2.1
 let b30 : Bool := x25.2.2.2.2.1
 let b31 : Int := x25.2.2.2.2.2.1
 let Rq : List (List UInt8) := x25.2.2.2.2.2.2.1
 let Rs : List (Int) := x25.2.2.2.2.2.2.2.1
 let Ad : List (Int) := x25.2.2.2.2.2.2.2.2.1
 br zSj (
  some ([], b31, 210)) (
  br (Vu == 39) (
   let v35 : Int := IntKind.wrap .i64 (b31 + 1)
   chk ((decide (0 <= v35) && decide (v35 <= (vK.length : Int)))) (
    ob (strings_Cut n (vK.drop v35.toNat, [39])) fun y36 =>
    br (!y36.2.2) (
     some ([], b31, 210)) (
     ob (bT n (b30, b31, Rq, Rs, ())) fun y37 =>
     chk (Nat.ble ((Ad.length + y36.1.length) * 1) room) (
      let v38 : Int := IntKind.wrap .i64 ((y36.1.length : Int) + 2)
      let v39 : Int := IntKind.wrap .i64 (y37.2.1 + v38)
      g0 (vK, Rp, y37.1, v39, y37.2.2.1, y37.2.2.2.1, Ad ++ aI y36.1, ()))))) (
   br (Vu == 34) (
    let v40 : Int := IntKind.wrap .i64 (b31 + 1)
    chk ((decide (0 <= v40) && decide (v40 <= (vK.length : Int)))) (
     ob (sK n (vK.drop v40.toNat)) fun y41 =>
     br (y41.2.1 == 0) (
      br (decide (y41.2.2 ≥ 0)) (
       let v42 : Int := IntKind.wrap .i64 (1 + y41.2.2)
       let v43 : Int := IntKind.wrap .i64 (b31 + v42)
       some ([], v43, 210)) (
       some ([], b31, 210))) (
      ob (bT n (b30, b31, Rq, Rs, ())) fun y44 =>
      chk (Nat.ble ((Ad.length + y41.1.length) * 1) room) (
       let v45 : Int := IntKind.wrap .i64 (y41.2.1 + 1)
       let v46 : Int := IntKind.wrap .i64 (y44.2.1 + v45)
       g0 (vK, Rp, y44.1, v46, y44.2.2.1, y44.2.2.2.1, Ad ++ y41.1, ()))))) (
    br (Vu == 92) (
     let v47 : Int := IntKind.wrap .i64 (b31 + 1)
     br (v47 == (vK.length : Int)) (
      some ([], b31, 210)) (
      let v48 : Int := IntKind.wrap .i64 (b31 + 1)
      chk (inB v48 vK.length) (
       let v49 : Int := ((aY 0 vK v48).toNat : Int)
       br (v49 == 10) (
        some ([], b31, 210)) (
        jn (rY n g0) (vK, Rp, b30, b31, Rq, Rs, Ad, ()))))) (
     ob (bT n (b30, b31, Rq, Rs, ())) fun y62 =>
     chk (Nat.ble ((Ad.length + ([Vu] : List (Int)).length) * 1) room) (
      let v63 : Int := IntKind.wrap .i64 (y62.2.1 + 1)
      g0 (vK, Rp, y62.1, v63, y62.2.2.1, y62.2.2.2.1, Ad ++ [Vu], ()))))))
def bX (n : Nat) (g0 : List UInt8 × List (List (List UInt8)) × Bool × Int × List (List UInt8) × List (Int) × List (Int) × Unit -> Option (List (List (List UInt8)) × Int × Int)) (x10 : List UInt8 × Int × Bool × List (List (List UInt8)) × Bool × Int × List (List UInt8) × List (Int) × List (Int) × Unit) : Option (List (List (List UInt8)) × Int × Int) :=
 let Vv : List UInt8 := x10.1
 let Ik : Int := x10.2.1
 let zSk : Bool := x10.2.2.1
 let Ep : List (List (List UInt8)) := x10.2.2.2.1
 let b15 : Bool := x10.2.2.2.2.1
 let b16 : Int := x10.2.2.2.2.2.1
 let Lu : List (List UInt8) := x10.2.2.2.2.2.2.1
 let Lv : List (Int) := x10.2.2.2.2.2.2.2.1
 let Lx : List (Int) := x10.2.2.2.2.2.2.2.2.1
 br zSk (
  ob (fV n (b15, Lu, Lx, ())) fun y20 =>
  let v21 : Int := IntKind.wrap .i64 (b16 + 1)
  g0 (Vv, Ep, y20.1, v21, y20.2.1, Lv, [], ())) (
  br (Ik == 124) (
   ob (fV n (b15, Lu, Lx, ())) fun y22 =>
   let v23 : Int := ((y22.2.1.length : Nat) : Int)
   br (v23 == 0) (
    some ([], b16, 210)) (
    chk (Nat.ble ((Ep.length + ([y22.2.1] : List (List (List UInt8))).length) * 24) room) (
     let v24 : Int := IntKind.wrap .i64 (b16 + 1)
     g0 (Vv, Ep ++ [y22.2.1], y22.1, v24, [], Lv, [], ())))) (
   br (Ik == 35) (
    br (!b15) (
     jn (eH n g0) (Vv, Ik, (!b15), Ep, b15, b16, Lu, Lv, Lx, ())) (
     ob (strings_IndexByte n ([10, 59, 38, 60, 62, 40, 41, 36, 42, 63, 91, 96], Ik)) fun y64 =>
     jn (eH n g0) (Vv, Ik, (decide (y64 ≥ 0)), Ep, b15, b16, Lu, Lv, Lx, ()))) (
    ob (strings_IndexByte n ([10, 59, 38, 60, 62, 40, 41, 36, 42, 63, 91, 96], Ik)) fun y65 =>
    jn (eH n g0) (Vv, Ik, (decide (y65 ≥ 0)), Ep, b15, b16, Lu, Lv, Lx, ()))))
def gM (n : Nat) (g1 : Int × Int × List (List (List UInt8)) × Int × List (Int) × Unit -> Option (List (List (List UInt8)) × Int × Int)) (x73 : Int × Int × List (List (List UInt8)) × Int × List (Int) × Unit) : Option (List (List (List UInt8)) × Int × Int) :=
 let Zt : Int := x73.1
 let nZ : Int := x73.2.1
 let Ae : List (List (List UInt8)) := x73.2.2.1
 let b77 : Int := x73.2.2.2.1
 let Er : List (Int) := x73.2.2.2.2.1
 br (decide (nZ < Zt)) (
  chk ((inB nZ (Ae.length) && decide (0 + (Ae.length) <= Ae.length))) (
   chk (decide (0 + nZ.toNat < Ae.length)) (
    let v79 : List (List UInt8) := Ae.getD (0 + nZ.toNat) (Ty.dflt (.slice .str))
    chk (inB 0 v79.length) (
     let v80 : List UInt8 := aY (Ty.dflt .str) v79 0
     br (!(v80 == [115, 101, 100])) (
      chk ((inB nZ (Er.length) && decide (0 + (Er.length) <= Er.length))) (
       chk (decide (0 + nZ.toNat < Er.length)) (
        let v81 : Int := Er.getD (0 + nZ.toNat) (Ty.dflt (.int .i64))
        some ([], v81, 210)))) (
      let v82 : Int := IntKind.wrap .i64 (nZ + 1)
      g1 (Zt, v82, Ae, b77, Er, ())))))) (
  some (Ae, 0, 0))
def gN (n : Nat) (x68 : List (List (List UInt8)) × Int × List (Int) × Unit) : Option (List (List (List UInt8)) × Int × Int) :=
 let zJu : List (List (List UInt8)) := x68.1
 let b70 : Int := x68.2.1
 let zUp : List (Int) := x68.2.2.1
 let v72 : Int := ((zJu.length : Nat) : Int)
 fix (gM n) n (v72, 0, zJu, b70, zUp, ())
def aP (n : Nat) (g0 : List UInt8 × List (List (List UInt8)) × Bool × Int × List (List UInt8) × List (Int) × List (Int) × Unit -> Option (List (List (List UInt8)) × Int × Int)) (x1 : List UInt8 × List (List (List UInt8)) × Bool × Int × List (List UInt8) × List (Int) × List (Int) × Unit) : Option (List (List (List UInt8)) × Int × Int) :=
 let s_2 : List UInt8 := x1.1
 let mP : List (List (List UInt8)) := x1.2.1
 let b4 : Bool := x1.2.2.1
 let b5 : Int := x1.2.2.2.1
 let zIu : List (List UInt8) := x1.2.2.2.2.1
 let zDk : List (Int) := x1.2.2.2.2.2.1
 let zIv : List (Int) := x1.2.2.2.2.2.2.1
 br (decide (b5 < (s_2.length : Int))) (
  chk (inB b5 s_2.length) (
   let v9 : Int := ((aY 0 s_2 b5).toNat : Int)
   br (v9 == 32) (
    jn (bX n g0) (s_2, v9, true, mP, b4, b5, zIu, zDk, zIv, ())) (
    jn (bX n g0) (s_2, v9, (v9 == 9), mP, b4, b5, zIu, zDk, zIv, ())))) (
  ob (fV n (b4, zIu, zIv, ())) fun y66 =>
  let v67 : Int := ((y66.2.1.length : Nat) : Int)
  br (decide (v67 > 0)) (
   chk (Nat.ble ((mP.length + ([y66.2.1] : List (List (List UInt8))).length) * 24) room) (
    jn (gN n) (mP ++ [y66.2.1], b5, zDk, ()))) (
   let v83 : Int := ((mP.length : Nat) : Int)
   br (decide (v83 > 0)) (
    some ([], b5, 210)) (
    jn (gN n) (mP, b5, zDk, ()))))
def iT (n : Nat) (x : List UInt8) : Option (List (List (List UInt8)) × Int × Int) :=
 let s_0 : List UInt8 := x
 fix (aP n) n (s_0, [], false, 0, [], [], [], ())
end Go.Dec
namespace Go.Dec
set_option linter.unusedSimpArgs false
theorem nI {ρ α : Type} (f : α -> Option ρ) (x : α) : jn f x = f x:=rfl
theorem wI {n : Nat} {inn : Bool} {stage : List (List UInt8)} {word : List Int} (h : stage.length <= 1000000) : fV n (inn,stage,word,()) = some (false,(if inn = true then stage ++ [fC word] else stage),word,()):=by
 unfold fV
 simp only
 cases inn with
 | false => simp
 | true =>
  rw [zOg,aW (by simp [room]; omega)]
  simp
theorem Dl {n : Nat} {inn : Bool} {p : Int} {stage : List (List UInt8)} {beg : List Int} (h : beg.length <= 1000000) : bT n (inn,p,stage,beg,()) = some (true,p,stage,(if inn = false ∧ stage = [] then beg ++ [p] else beg),()):=by
 unfold bT
 simp only
 cases inn with
 | true => simp
 | false =>
  cases stage with
  | nil =>
   rw [bR (by simp),bR (by simp),aW (by simp [room]; omega)]
   simp
  | cons a l =>
   rw [bR (by simp),aS (by simp; omega)]
   simp
theorem zSl {n : Nat} {out : List (List (List UInt8))} {beg : List Int} {b : Int} (hl : out.length <= 1000001) (hb : out.length <= beg.length) (hne : ∀ l ∈ out,l ≠ []) : ∀ (q p : List (List (List UInt8))) (m : Nat),out = p ++ q -> q.length < m ->
  (∃ r,fix (gM n) m ((out.length : Int),(p.length : Int),out,b,beg,()) = some r) ∧
  ((∀ l ∈ q,∃ r,l = [115,101,100] :: r) -> fix (gM n) m ((out.length : Int),(p.length : Int),out,b,beg,()) = some (out,0,0)):=by
 intro q
 induction q with
 | nil =>
  intro p m hp hm
  have hp : p = out:=by simpa using hp.symm
  subst hp
  rw [dM (by omega),gM]
  simp only
  rw [aS (by simp)]
  exact ⟨⟨_,rfl⟩,fun _ => rfl⟩
 | cons l q ih =>
  intro p m hp hm
  have hm' : q.length + 1 < m:=hm
  have hlen : out.length = p.length + q.length + 1:=by rw [hp]; simp; omega
  obtain ⟨a,l',rfl⟩:=List.exists_cons_of_ne_nil (hne l (by rw [hp]; simp))
  have hg : out.getD (0 + (p.length : Int).toNat) (Ty.dflt (.slice .str)) = a :: l':=by
   rw [hp]; simp [List.getD_eq_getElem?_getD]
  have ha : aY (Ty.dflt .str) (a :: l') 0 = a:=by simp [aY]
  have hi:=ih (p ++ [a :: l']) (m - 1) (by rw [hp]; simp) (by omega)
  rw [show ((p ++ [a :: l']).length : Int) = (p.length : Int) + 1 by simp] at hi
  rw [dM (by omega),gM]
  simp only
  rw [bR (decide_eq_true (by omega)),aW (by rw [iP (by omega)]; simp),aW (by simp; omega)]
  simp only [hg,ha]
  rw [aW (by simp [inB])]
  by_cases h : a = [115,101,100]
  ·subst h
   rw [aS (by simp),jK (by omega) (by omega)]
   exact ⟨hi.1,fun hall => hi.2 fun l hl => hall l (List.mem_cons_of_mem _ hl)⟩
  ·rw [bR (by simpa using h),aW (by rw [iP (by omega)]; simp),aW (by simp; omega)]
   exact ⟨⟨_,rfl⟩,fun hall => by obtain ⟨r,hr⟩:=hall _ List.mem_cons_self; cases hr; exact absurd rfl h⟩
theorem Zu {n : Nat} {out : List (List (List UInt8))} {beg : List Int} {b : Int} (hl : out.length <= 1000001) (hn : out.length < n) (hb : out.length <= beg.length) (hs : ∀ l ∈ out,∃ r,l = [115,101,100] :: r) : gN n (out,b,beg,()) = some (out,0,0) :=
 (zSl hl hb (fun l hl => by obtain ⟨r,rfl⟩:=hs l hl; simp) out [] n rfl hn).2 hs
theorem Il (n : Nat) (s : List UInt8) (c : Int) : strings_IndexByte n (s,c) = some (Go.Lib.indexByte s c.toNat.toUInt8):=rfl
def mQ (o : UInt8) : List UInt8 -> List UInt8 × List UInt8 × Bool
 | [] => ([],[],false)
 | b :: r => if b = o then ([],r,true) else (b :: (mQ o r).1,(mQ o r).2.1,(mQ o r).2.2)
theorem zJv (o : UInt8) : ∀ s : List UInt8,Go.Lib.cut s [o] = mQ o s
 | [] => by simp [Go.Lib.cut,Go.Lib.index,mQ]
 | b :: r => by
  have ih:=zJv o r
  have hge:=Go.Lib.index_ge r [o]
  by_cases hb : b = o
  ·subst hb
   have hx : Go.Lib.index ((b : UInt8) :: r) [b] = 0:=by simp [Go.Lib.index]
   simp [Go.Lib.cut,mQ,hx]
  ·have h1 : ([o] : List UInt8).isPrefixOf (b :: r) = false:=by simp [List.isPrefixOf,Ne.symm hb]
   have hx : Go.Lib.index (b :: r) [o] = if Go.Lib.index r [o] = -1 then -1 else Go.Lib.index r [o] + 1:=by simp [Go.Lib.index,h1]
   unfold Go.Lib.cut at *
   simp only [mQ,if_neg hb,<- ih,hx]
   by_cases hi : Go.Lib.index r [o] = -1
   ·simp [hi]
   ·have h2 : 0 <= Go.Lib.index r [o]:=by omega
    have h3 : 0 <= Go.Lib.index r [o] + 1:=by omega
    have h4 : (Go.Lib.index r [o] + 1).toNat = (Go.Lib.index r [o]).toNat + 1:=by omega
    simp [hi,h2,h3,h4]
theorem cutB_hit {o : UInt8} : ∀ {s a r : List UInt8},mQ o s = (a,r,true) -> s = a ++ o :: r ∧ o ∉ a
 | [],_,_,h => by simp [mQ] at h
 | b :: s,a,r,h => by
  unfold mQ at h
  split at h
  ·rename_i hb
   simp only [Prod.mk.injEq,and_true] at h
   obtain ⟨rfl,rfl⟩:=h
   simp [hb]
  ·rename_i hb
   simp only [Prod.mk.injEq] at h
   obtain ⟨rfl,rfl,h3⟩:=h
   have hc : mQ o s = ((mQ o s).1,(mQ o s).2.1,true):=by rw [<- h3]
   obtain ⟨h1,h2⟩:=cutB_hit hc
   exact ⟨by rw [List.cons_append,<- h1],by simp [Ne.symm hb,h2]⟩
theorem Zv {o : UInt8} : ∀ {a : List UInt8} (r : List UInt8),o ∉ a -> mQ o (a ++ o :: r) = (a,r,true)
 | [],r,_ => by simp [mQ]
 | b :: a,r,h => by
  have h1 : b ≠ o:=fun e => h (by simp [e])
  have h2 : o ∉ a:=fun e => h (by simp [e])
  simp [mQ,h1,Zv r h2]
structure zWz (p : Nat) (out : List (List (List UInt8))) (inn : Bool) (stage : List (List UInt8)) (beg word : List Int) : Prop where
 lo : out.length <= p
 ls : stage.length <= p
 lb : beg.length <= p
 lw : word.length <= p
 ne : ∀ l ∈ out,l ≠ []
 zXa : beg.length = out.length + (if inn = true ∨ stage ≠ [] then 1 else 0)
def oV (inn : Bool) (stage : List (List UInt8)) (word : List Int) : List (List UInt8):=if inn = true then stage ++ [fC word] else stage
def iU (p : Int) (inn : Bool) (stage : List (List UInt8)) (beg : List Int) : List Int:=if inn = false ∧ stage = [] then beg ++ [p] else beg
end Go.Dec
