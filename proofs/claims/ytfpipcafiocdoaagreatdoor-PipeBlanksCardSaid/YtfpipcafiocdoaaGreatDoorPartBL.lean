/- Part of a proof over this seat: a library of my own, and what it says of this seat. No statement is proved here. -/
import Derived.Test.YtfpipcafiocdoaaGreatDoorPartBJ
import Derived.Test.YtfpipcafiocdoaaGreatDoorPartBK
import Derived.KernelRfl
import Derived.Test.YtfpipcafiocdoaaGreatDoorPartAJ
import Derived.Test.YtfpipcafiocdoaaGreatDoorPartBA
namespace Go.Dec
open Go.Proofs Go.RowKit Go.Sort Go.Lib
abbrev Dz : List Ty:=[.str,.str]
abbrev Ea : List Ty:=[.str,.str,.bool]
abbrev jR : List Ty:=[.str,.int .u8]
abbrev jS : List Ty:=[.int .i64]
abbrev Bl : List Ty:=[.slice .str,.str]
abbrev sQ : List Ty:=[.str]
abbrev pX : List Ty:=[.str,.str,.str]
abbrev pY : List Ty:=[.str]
theorem Nc {w w' : World} (h : Below w.heap.size w w') : Keep (fun _ _ => False) w w':=Keep.oC (M:=fun _ => False) h.size (fun b hb _ => h.block b hb) (fun _ _ h => h)
theorem Hf {w : World} (hG : Glob Tryz.prog w) : ∃ m : Int,w.cell? ⟨0,0,none⟩ = some (.int .i64 m) :=
 hG 0 (Tryz.prog.globals[0]'(by decide +kernel)) (by rw [Array.getElem?_eq_getElem]) (.int .i64) (by kernel_rfl)
theorem Ji (n : Nat) : Pure Tryz.prog 29 Dz Ea (strings_Cut n):=by
 refine ⟨by kernel_rfl,fun x y hF w N xs hG _ hx => ?_⟩
 obtain ⟨hc,hy⟩:=jW hF
 have hc:=of_decide_eq_true hc
 obtain rfl:=Option.some.inj hy
 obtain ⟨u,us,rfl,h1,v,rfl,h2⟩:=hx
 simp only [Ty.fU,Ty.isAgg,Bool.false_eq_true,if_false,Ty.Rel,List.cons.injEq,and_true] at h1 h2
 subst h1 h2
 obtain ⟨m,hm⟩:=Hf hG
 refine (Tryz.strings_Cut _ _ m w (by simpa [ByteArray.size] using hc) hm).mono ?_
 rintro e w' ⟨rfl,k,rfl⟩
 refine ⟨[_,_,_],rfl,rfl,rfl,rfl,Keep.oC (M:=fun _ => False) (Nat.le_refl _) (fun _ _ _ => rfl) (fun _ _ h => h),⟨_,_,rfl,?_,_,_,rfl,?_,_,rfl,?_⟩⟩ <;> simp [Ty.fU,Ty.isAgg,Ty.Rel]
theorem jY (n : Nat) : Pure Tryz.prog 28 jR jS (strings_IndexByte n):=by
 refine ⟨by kernel_rfl,fun x y hF w N xs hG _ hx => ?_⟩
 obtain rfl:=Option.some.inj hF
 obtain ⟨u,us,rfl,h1,v,rfl,h2⟩:=hx
 simp only [Ty.fU,Ty.isAgg,Bool.false_eq_true,if_false,Ty.Rel,List.cons.injEq,and_true] at h1 h2
 subst h1 h2
 refine (Tryz.strings_IndexByte _ _ w).mono ?_
 rintro e w' ⟨rfl,rfl⟩
 exact ⟨[_],rfl,rfl,rfl,rfl,Keep.refl _ _,_,rfl,by simp [Ty.fU,Ty.isAgg,Ty.Rel]⟩
theorem Yc {w : World} {N : Nat -> Nat -> Prop} : ∀ {xs : List (List UInt8)} {css : List (List Value)},aJ (fun x c => Ty.str.Rel w N x c) xs css -> css = xs.map fun x => [Value.string ⟨x.toArray⟩]
 | [],[],_ => rfl
 | x :: xs,c :: css,h => by
  obtain ⟨h1,h2⟩:=h
  simp only [Ty.Rel] at h1
  subst h1
  rw [List.map_cons,Yc h2]
 | [],_ :: _,h => h.elim
 | _ :: _,[],h => h.elim
theorem zJu : ∀ (xs : List (List UInt8)) (sep : List UInt8),eO xs sep = Go.Lib.join xs sep:=by
 intro xs sep
 induction xs with
 | nil => rfl
 | cons x r ih =>
  cases r with
  | nil => simp [eO,Go.Lib.join]
  | cons y r => rw [eO,ih]; simp [Go.Lib.join]
theorem Gi (n : Nat) : Pure Tryz.prog 25 Bl sQ (strings_Join n):=by
 refine ⟨by kernel_rfl,fun x y hF w N vs hG _ hx => ?_⟩
 obtain ⟨xs,sep⟩:=x
 obtain ⟨hc,hy⟩:=jW hF
 obtain rfl:=Option.some.inj hy
 simp only [Bool.and_eq_true] at hc
 have hc1:=Nat.le_of_ble_eq_true hc.1
 have hc2:=Nat.le_of_ble_eq_true hc.2
 simp only [room] at hc1 hc2
 obtain ⟨u,us,rfl,h1,v,rfl,h2⟩:=hx
 simp only [Ty.fU,Ty.isAgg,Bool.false_eq_true,if_false,Ty.Rel,List.cons.injEq,and_true] at h1 h2
 subst h2
 obtain ⟨_,rfl,h1⟩:=h1
 have out : ∀ {e : Ending} {w' : World},e = .returned (.string ⟨(eO xs sep).toArray⟩) -> Below w.heap.size w w' -> ∃ us : List Value,e = .returned (kZ us) ∧ w'.os = w.os ∧ w'.tape = w.tape ∧ w'.output = w.output ∧ Keep (fun _ _ => False) w w' ∧ DensRel w' N sQ (eO xs sep) us:=by
  rintro e w' rfl hb
  exact ⟨[_],rfl,hb.os,hb.tape,hb.output,Nc hb,_,rfl,by simp [Ty.fU,Ty.isAgg,Ty.Rel]⟩
 rcases h1 with ⟨rfl,rfl⟩ | ⟨b,off,cap,css,rfl,hb,_,hl,_,hall,_,hcs⟩ | ⟨a,cap,rfl,rfl,_⟩
 ·refine (Tryz.strings_Join_none none 0 _ w).mono ?_
  rintro e w' ⟨rfl,rfl⟩
  exact out rfl (Below.refl _ _)
 ·have zHw:=Yc (w:=w) (N:=N) hall
  have hj : Go.Lib.join ((xs.map fun x => (⟨x.toArray⟩ : ByteArray)).map (·.data.toList)) sep = eO xs sep:=by
   rw [zJu,List.map_map]
   congr 1
   exact List.map_id xs
  have hcell : ∀ (j : Nat) (x : ByteArray),(xs.map fun x => (⟨x.toArray⟩ : ByteArray))[j]? = some x -> w.cell? ⟨b,off + j,none⟩ = some (.string x):=by
   intro j x hjx
   refine hcs j (.string x) ?_
   rw [zHw]
   rw [List.getElem?_map] at hjx
   have : ∀ (l : List (List UInt8)) (j : Nat),((l.map fun x => [Value.string ⟨x.toArray⟩]).flatten)[j]? = (l[j]?).map fun x => Value.string ⟨x.toArray⟩:=by
    intro l
    induction l with
    | nil => intro j; simp
    | cons a l ih => intro j; cases j with
     | zero => simp
     | succ j => simpa using ih j
   rw [this]
   cases hx : xs[j]? with
   | none => rw [hx] at hjx; cases hjx
   | some z => rw [hx] at hjx; simp at hjx; subst hjx; rfl
  have:=Tryz.strings_Join b off cap (xs.map fun x => (⟨x.toArray⟩ : ByteArray)) ⟨sep.toArray⟩ w hcell hb (by simpa using hc1) (by simpa using hl) (by rw [show (⟨sep.toArray⟩ : ByteArray).data.toList = sep by simp]; rw [hj]; exact hc2)
  rw [List.length_map] at this
  refine this.mono ?_
  rintro e w' ⟨rfl,hb'⟩
  refine out ?_ hb'
  rw [show (⟨sep.toArray⟩ : ByteArray).data.toList = sep by simp,hj]
 ·refine (Tryz.strings_Join_none (some a) cap _ w).mono ?_
  rintro e w' ⟨rfl,rfl⟩
  exact out rfl (Below.refl _ _)
theorem vS (n : Nat) : Pure Tryz.prog 33 pX pY (strings_ReplaceAll n):=by
 refine ⟨by kernel_rfl,fun x y hF w N vs hG _ hx => ?_⟩
 obtain ⟨s,o,new⟩:=x
 match o,hF with
 | [o],hF =>
  obtain ⟨hc,hy⟩:=jW hF
  obtain rfl:=Option.some.inj hy
  simp only [Bool.and_eq_true] at hc
  have hc1 : s.length <= 1000000:=Nat.le_of_ble_eq_true hc.1
  have hc2 : new.length <= 1000:=Nat.le_of_ble_eq_true hc.2
  obtain ⟨u,us,rfl,h1,v,vs,rfl,h2,z,rfl,h3⟩:=hx
  simp only [Ty.fU,Ty.isAgg,Bool.false_eq_true,if_false,Ty.Rel,List.cons.injEq,and_true] at h1 h2 h3
  subst h1 h2 h3
  obtain ⟨m,hm⟩:=Hf hG
  have hcnt:=Go.Lib.countB_mul_le (⟨[o].toArray⟩ : ByteArray) (by simp [ByteArray.size]) _ (⟨s.toArray⟩ : ByteArray) (Nat.le_refl _)
  have hs1 : (⟨s.toArray⟩ : ByteArray).size = s.length:=by simp [ByteArray.size]
  have ho1 : (⟨[o].toArray⟩ : ByteArray).size = 1:=by simp [ByteArray.size]
  have hn1 : (⟨new.toArray⟩ : ByteArray).size = new.length:=by simp [ByteArray.size]
  rw [hs1,ho1,Nat.mul_one] at hcnt
  have hmul : Go.Lib.countB (⟨s.toArray⟩ : ByteArray) ⟨[o].toArray⟩ * new.length <= 1000000 * 1000:=Nat.mul_le_mul (by omega) hc2
  refine (Tryz.strings_ReplaceAll _ _ _ m w (by rw [hs1]; omega) hm (by rw [ho1]; omega) (by rw [hs1,hn1]; omega)).mono ?_
  rintro e w' ⟨rfl,hb⟩
  refine ⟨[_],rfl,hb.os,hb.tape,hb.output,Nc hb,_,rfl,?_⟩
  have:=Pn o new s
  simp [Ty.fU,Ty.isAgg,Ty.Rel,this]
end Go.Dec
namespace Go.Dec
set_option linter.unusedVariables false
def gK (n : Nat) (x : Bool × List (List UInt8) × List (Int) × Unit) : Option (Bool × List (List UInt8) × List (Int) × Unit) :=
 let b1 : Bool := x.1
 let zJv : List (List UInt8) := x.2.1
 let mY : List (Int) := x.2.2.1
 br b1 (
  chk (Nat.ble ((zJv.length + ([fH mY] : List (List UInt8)).length) * 16) room) (
   some (false, zJv ++ [fH mY], mY, ()))) (
  some (false, zJv, mY, ()))
def bV (n : Nat) (x : Bool × Int × List (List UInt8) × List (Int) × Unit) : Option (Bool × Int × List (List UInt8) × List (Int) × Unit) :=
 let b1 : Bool := x.1
 let b2 : Int := x.2.1
 let mY : List (List UInt8) := x.2.2.1
 let pO : List (Int) := x.2.2.2.1
 br (!b1) (
  let v5 : Int := ((mY.length : Nat) : Int)
  br (v5 == 0) (
   chk (Nat.ble ((pO.length + ([b2] : List (Int)).length) * 8) room) (
    some (true, b2, mY, pO ++ [b2], ()))) (
   some (true, b2, mY, pO, ()))) (
  some (true, b2, mY, pO, ()))
def Bu (n : Nat) (g0 : List UInt8 × Int × List (Int) × Unit -> Option (List (Int) × Int × Int)) (x1 : List UInt8 × Int × List (Int) × Unit) : Option (List (Int) × Int × Int) :=
 let s_2 : List UInt8 := x1.1
 let i_3 : Int := x1.2.1
 let pO : List (Int) := x1.2.2.1
 br (decide (i_3 < (s_2.length : Int))) (
  chk (inB i_3 s_2.length) (
   let v5 : Int := ((aN 0 s_2 i_3).toNat : Int)
   br (v5 == 34) (
    let v6 : Int := IntKind.wrap .i64 (i_3 + 1)
    some (pO, v6, (-1))) (
    ob (strings_IndexByte n ([36, 96], v5)) fun y7 =>
    br (decide (y7 ≥ 0)) (
     some ([], 0, i_3)) (
     br (v5 == 92) (
      let v8 : Int := IntKind.wrap .i64 (i_3 + 1)
      br (decide (v8 < (s_2.length : Int))) (
       let v9 : Int := IntKind.wrap .i64 (i_3 + 1)
       chk (inB v9 s_2.length) (
        let v10 : Int := ((aN 0 s_2 v9).toNat : Int)
        ob (strings_IndexByte n ([36, 34, 92, 96], v10)) fun y11 =>
        br (decide (y11 ≥ 0)) (
         let v12 : Int := IntKind.wrap .i64 (i_3 + 1)
         chk (inB v12 s_2.length) (
          let v13 : Int := ((aN 0 s_2 v12).toNat : Int)
          chk (Nat.ble ((pO.length + ([v13] : List (Int)).length) * 1) room) (
           let v14 : Int := IntKind.wrap .i64 (v12 + 1)
           g0 (s_2, v14, pO ++ [v13], ())))) (
         chk (inB i_3 s_2.length) (
          let v15 : Int := ((aN 0 s_2 i_3).toNat : Int)
          chk (Nat.ble ((pO.length + ([v15] : List (Int)).length) * 1) room) (
           let v16 : Int := IntKind.wrap .i64 (i_3 + 1)
           g0 (s_2, v16, pO ++ [v15], ())))))) (
       chk (inB i_3 s_2.length) (
        let v17 : Int := ((aN 0 s_2 i_3).toNat : Int)
        chk (Nat.ble ((pO.length + ([v17] : List (Int)).length) * 1) room) (
         let v18 : Int := IntKind.wrap .i64 (i_3 + 1)
         g0 (s_2, v18, pO ++ [v17], ()))))) (
      chk (inB i_3 s_2.length) (
       let v19 : Int := ((aN 0 s_2 i_3).toNat : Int)
       chk (Nat.ble ((pO.length + ([v19] : List (Int)).length) * 1) room) (
        let v20 : Int := IntKind.wrap .i64 (i_3 + 1)
        g0 (s_2, v20, pO ++ [v19], ())))))))) (
  some ([], 0, (-2)))
def sS (n : Nat) (x : List UInt8) : Option (List (Int) × Int × Int) :=
 let s_0 : List UInt8 := x
 fix (Bu n) n (s_0, 0, [], ())
def sI (n : Nat) (g0 : List UInt8 × List (List (List UInt8)) × Bool × Int × List (List UInt8) × List (Int) × List (Int) × Unit -> Option (List (List (List UInt8)) × Int × Int)) (x50 : List UInt8 × List (List (List UInt8)) × Bool × Int × List (List UInt8) × List (Int) × List (Int) × Unit) : Option (List (List (List UInt8)) × Int × Int) :=
 let zJw : List UInt8 := x50.1
 let zVr : List (List (List UInt8)) := x50.2.1
 let b53 : Bool := x50.2.2.1
 let b54 : Int := x50.2.2.2.1
 let zVs : List (List UInt8) := x50.2.2.2.2.1
 let zVt : List (Int) := x50.2.2.2.2.2.1
 let zKv : List (Int) := x50.2.2.2.2.2.2.1
 ob (bV n (b53, b54, zVs, zVt, ())) fun y58 =>
 let v59 : Int := IntKind.wrap .i64 (y58.2.1 + 1)
 chk (inB v59 zJw.length) (
  let v60 : Int := ((aN 0 zJw v59).toNat : Int)
  chk (Nat.ble ((zKv.length + ([v60] : List (Int)).length) * 1) room) (
   let v61 : Int := IntKind.wrap .i64 (y58.2.1 + 2)
   g0 (zJw, zVr, y58.1, v61, y58.2.2.1, y58.2.2.2.1, zKv ++ [v60], ())))
def eU (n : Nat) (g0 : List UInt8 × List (List (List UInt8)) × Bool × Int × List (List UInt8) × List (Int) × List (Int) × Unit -> Option (List (List (List UInt8)) × Int × Int)) (x25 : List UInt8 × Int × Bool × List (List (List UInt8)) × Bool × Int × List (List UInt8) × List (Int) × List (Int) × Unit) : Option (List (List (List UInt8)) × Int × Int) :=
 let vR : List UInt8 := x25.1
 let Yd : Int := x25.2.1
 let zTn : Bool := x25.2.2.1
 let Uk : List (List (List UInt8)) := x25.2.2.2.1
 let b30 : Bool := x25.2.2.2.2.1
 let b31 : Int := x25.2.2.2.2.2.1
 let Ul : List (List UInt8) := x25.2.2.2.2.2.2.1
 let Um : List (Int) := x25.2.2.2.2.2.2.2.1
 let Al : List (Int) := x25.2.2.2.2.2.2.2.2.1
 br zTn (
  some ([], b31, 210)) (
  br (Yd == 39) (
   let v35 : Int := IntKind.wrap .i64 (b31 + 1)
   chk ((decide (0 <= v35) && decide (v35 <= (vR.length : Int)))) (
    ob (strings_Cut n (vR.drop v35.toNat, [39])) fun y36 =>
    br (!y36.2.2) (
     some ([], b31, 210)) (
     ob (bV n (b30, b31, Ul, Um, ())) fun y37 =>
     chk (Nat.ble ((Al.length + y36.1.length) * 1) room) (
      let v38 : Int := IntKind.wrap .i64 ((y36.1.length : Int) + 2)
      let v39 : Int := IntKind.wrap .i64 (y37.2.1 + v38)
      g0 (vR, Uk, y37.1, v39, y37.2.2.1, y37.2.2.2.1, Al ++ aI y36.1, ()))))) (
   br (Yd == 34) (
    let v40 : Int := IntKind.wrap .i64 (b31 + 1)
    chk ((decide (0 <= v40) && decide (v40 <= (vR.length : Int)))) (
     ob (sS n (vR.drop v40.toNat)) fun y41 =>
     br (y41.2.1 == 0) (
      br (decide (y41.2.2 ≥ 0)) (
       let v42 : Int := IntKind.wrap .i64 (1 + y41.2.2)
       let v43 : Int := IntKind.wrap .i64 (b31 + v42)
       some ([], v43, 210)) (
       some ([], b31, 210))) (
      ob (bV n (b30, b31, Ul, Um, ())) fun y44 =>
      chk (Nat.ble ((Al.length + y41.1.length) * 1) room) (
       let v45 : Int := IntKind.wrap .i64 (y41.2.1 + 1)
       let v46 : Int := IntKind.wrap .i64 (y44.2.1 + v45)
       g0 (vR, Uk, y44.1, v46, y44.2.2.1, y44.2.2.2.1, Al ++ y41.1, ()))))) (
    br (Yd == 92) (
     let v47 : Int := IntKind.wrap .i64 (b31 + 1)
     br (v47 == (vR.length : Int)) (
      some ([], b31, 210)) (
      let v48 : Int := IntKind.wrap .i64 (b31 + 1)
      chk (inB v48 vR.length) (
       let v49 : Int := ((aN 0 vR v48).toNat : Int)
       br (v49 == 10) (
        some ([], b31, 210)) (
        jn (sI n g0) (vR, Uk, b30, b31, Ul, Um, Al, ()))))) (
     ob (bV n (b30, b31, Ul, Um, ())) fun y62 =>
     chk (Nat.ble ((Al.length + ([Yd] : List (Int)).length) * 1) room) (
      let v63 : Int := IntKind.wrap .i64 (y62.2.1 + 1)
      g0 (vR, Uk, y62.1, v63, y62.2.2.1, y62.2.2.2.1, Al ++ [Yd], ()))))))
def bZ (n : Nat) (g0 : List UInt8 × List (List (List UInt8)) × Bool × Int × List (List UInt8) × List (Int) × List (Int) × Unit -> Option (List (List (List UInt8)) × Int × Int)) (x10 : List UInt8 × Int × Bool × List (List (List UInt8)) × Bool × Int × List (List UInt8) × List (Int) × List (Int) × Unit) : Option (List (List (List UInt8)) × Int × Int) :=
 let Ye : List UInt8 := x10.1
 let Jj : Int := x10.2.1
 let zTo : Bool := x10.2.2.1
 let Fq : List (List (List UInt8)) := x10.2.2.2.1
 let b15 : Bool := x10.2.2.2.2.1
 let b16 : Int := x10.2.2.2.2.2.1
 let Nf : List (List UInt8) := x10.2.2.2.2.2.2.1
 let Ng : List (Int) := x10.2.2.2.2.2.2.2.1
 let Nh : List (Int) := x10.2.2.2.2.2.2.2.2.1
 br zTo (
  ob (gK n (b15, Nf, Nh, ())) fun y20 =>
  let v21 : Int := IntKind.wrap .i64 (b16 + 1)
  g0 (Ye, Fq, y20.1, v21, y20.2.1, Ng, [], ())) (
  br (Jj == 124) (
   ob (gK n (b15, Nf, Nh, ())) fun y22 =>
   let v23 : Int := ((y22.2.1.length : Nat) : Int)
   br (v23 == 0) (
    some ([], b16, 210)) (
    chk (Nat.ble ((Fq.length + ([y22.2.1] : List (List (List UInt8))).length) * 24) room) (
     let v24 : Int := IntKind.wrap .i64 (b16 + 1)
     g0 (Ye, Fq ++ [y22.2.1], y22.1, v24, [], Ng, [], ())))) (
   br (Jj == 35) (
    br (!b15) (
     jn (eU n g0) (Ye, Jj, (!b15), Fq, b15, b16, Nf, Ng, Nh, ())) (
     ob (strings_IndexByte n ([10, 59, 38, 60, 62, 40, 41, 36, 42, 63, 91, 96], Jj)) fun y64 =>
     jn (eU n g0) (Ye, Jj, (decide (y64 ≥ 0)), Fq, b15, b16, Nf, Ng, Nh, ()))) (
    ob (strings_IndexByte n ([10, 59, 38, 60, 62, 40, 41, 36, 42, 63, 91, 96], Jj)) fun y65 =>
    jn (eU n g0) (Ye, Jj, (decide (y65 ≥ 0)), Fq, b15, b16, Nf, Ng, Nh, ()))))
def iA (n : Nat) (g1 : Int × Int × List (List (List UInt8)) × Int × List (Int) × Unit -> Option (List (List (List UInt8)) × Int × Int)) (x73 : Int × Int × List (List (List UInt8)) × Int × List (Int) × Unit) : Option (List (List (List UInt8)) × Int × Int) :=
 let zAw : Int := x73.1
 let oL : Int := x73.2.1
 let Am : List (List (List UInt8)) := x73.2.2.1
 let b77 : Int := x73.2.2.2.1
 let Fv : List (Int) := x73.2.2.2.2.1
 br (decide (oL < zAw)) (
  chk ((inB oL (Am.length) && decide (0 + (Am.length) <= Am.length))) (
   chk (decide (0 + oL.toNat < Am.length)) (
    let v79 : List (List UInt8) := Am.getD (0 + oL.toNat) (Ty.dflt (.slice .str))
    chk (inB 0 v79.length) (
     let v80 : List UInt8 := aN (Ty.dflt .str) v79 0
     br (!(v80 == [115, 101, 100])) (
      chk ((inB oL (Fv.length) && decide (0 + (Fv.length) <= Fv.length))) (
       chk (decide (0 + oL.toNat < Fv.length)) (
        let v81 : Int := Fv.getD (0 + oL.toNat) (Ty.dflt (.int .i64))
        some ([], v81, 210)))) (
      let v82 : Int := IntKind.wrap .i64 (oL + 1)
      g1 (zAw, v82, Am, b77, Fv, ())))))) (
  some (Am, 0, 0))
def iB (n : Nat) (x68 : List (List (List UInt8)) × Int × List (Int) × Unit) : Option (List (List (List UInt8)) × Int × Int) :=
 let zKw : List (List (List UInt8)) := x68.1
 let b70 : Int := x68.2.1
 let zVu : List (Int) := x68.2.2.1
 let v72 : Int := ((zKw.length : Nat) : Int)
 fix (iA n) n (v72, 0, zKw, b70, zVu, ())
def aS (n : Nat) (g0 : List UInt8 × List (List (List UInt8)) × Bool × Int × List (List UInt8) × List (Int) × List (Int) × Unit -> Option (List (List (List UInt8)) × Int × Int)) (x1 : List UInt8 × List (List (List UInt8)) × Bool × Int × List (List UInt8) × List (Int) × List (Int) × Unit) : Option (List (List (List UInt8)) × Int × Int) :=
 let s_2 : List UInt8 := x1.1
 let mY : List (List (List UInt8)) := x1.2.1
 let b4 : Bool := x1.2.2.1
 let b5 : Int := x1.2.2.2.1
 let zJx : List (List UInt8) := x1.2.2.2.2.1
 let zEk : List (Int) := x1.2.2.2.2.2.1
 let zJy : List (Int) := x1.2.2.2.2.2.2.1
 br (decide (b5 < (s_2.length : Int))) (
  chk (inB b5 s_2.length) (
   let v9 : Int := ((aN 0 s_2 b5).toNat : Int)
   br (v9 == 32) (
    jn (bZ n g0) (s_2, v9, true, mY, b4, b5, zJx, zEk, zJy, ())) (
    jn (bZ n g0) (s_2, v9, (v9 == 9), mY, b4, b5, zJx, zEk, zJy, ())))) (
  ob (gK n (b4, zJx, zJy, ())) fun y66 =>
  let v67 : Int := ((y66.2.1.length : Nat) : Int)
  br (decide (v67 > 0)) (
   chk (Nat.ble ((mY.length + ([y66.2.1] : List (List (List UInt8))).length) * 24) room) (
    jn (iB n) (mY ++ [y66.2.1], b5, zEk, ()))) (
   let v83 : Int := ((mY.length : Nat) : Int)
   br (decide (v83 > 0)) (
    some ([], b5, 210)) (
    jn (iB n) (mY, b5, zEk, ()))))
def eD (n : Nat) (x : List UInt8) : Option (List (List (List UInt8)) × Int × Int) :=
 let s_0 : List UInt8 := x
 fix (aS n) n (s_0, [], false, 0, [], [], [], ())
end Go.Dec
namespace Go.Dec
set_option linter.unusedSimpArgs false
theorem nQ {ρ α : Type} (f : α -> Option ρ) (x : α) : jn f x = f x:=rfl
theorem wP {n : Nat} {inn : Bool} {stage : List (List UInt8)} {word : List Int} (h : stage.length <= 1000000) : gK n (inn,stage,word,()) = some (false,(if inn = true then stage ++ [fH word] else stage),word,()):=by
 unfold gK
 simp only
 cases inn with
 | false => simp
 | true =>
  rw [zPk,aL (by simp [room]; omega)]
  simp
theorem Eb {n : Nat} {inn : Bool} {p : Int} {stage : List (List UInt8)} {beg : List Int} (h : beg.length <= 1000000) : bV n (inn,p,stage,beg,()) = some (true,p,stage,(if inn = false ∧ stage = [] then beg ++ [p] else beg),()):=by
 unfold bV
 simp only
 cases inn with
 | true => simp
 | false =>
  cases stage with
  | nil =>
   rw [bJ (by simp),bJ (by simp),aL (by simp [room]; omega)]
   simp
  | cons a l =>
   rw [bJ (by simp),aR (by simp; omega)]
   simp
theorem zTp {n : Nat} {out : List (List (List UInt8))} {beg : List Int} {b : Int} (hl : out.length <= 1000001) (hb : out.length <= beg.length) (hne : ∀ l ∈ out,l ≠ []) : ∀ (q p : List (List (List UInt8))) (m : Nat),out = p ++ q -> q.length < m ->
  (∃ r,fix (iA n) m ((out.length : Int),(p.length : Int),out,b,beg,()) = some r) ∧
  ((∀ l ∈ q,∃ r,l = [115,101,100] :: r) -> fix (iA n) m ((out.length : Int),(p.length : Int),out,b,beg,()) = some (out,0,0)):=by
 intro q
 induction q with
 | nil =>
  intro p m hp hm
  have hp : p = out:=by simpa using hp.symm
  subst hp
  rw [bU (by omega),iA]
  simp only
  rw [aR (by simp)]
  exact ⟨⟨_,rfl⟩,fun _ => rfl⟩
 | cons l q ih =>
  intro p m hp hm
  have hm' : q.length + 1 < m:=hm
  have hlen : out.length = p.length + q.length + 1:=by rw [hp]; simp; omega
  obtain ⟨a,l',rfl⟩:=List.exists_cons_of_ne_nil (hne l (by rw [hp]; simp))
  have hg : out.getD (0 + (p.length : Int).toNat) (Ty.dflt (.slice .str)) = a :: l':=by
   rw [hp]; simp [List.getD_eq_getElem?_getD]
  have ha : aN (Ty.dflt .str) (a :: l') 0 = a:=by simp [aN]
  have hi:=ih (p ++ [a :: l']) (m - 1) (by rw [hp]; simp) (by omega)
  rw [show ((p ++ [a :: l']).length : Int) = (p.length : Int) + 1 by simp] at hi
  rw [bU (by omega),iA]
  simp only
  rw [bJ (decide_eq_true (by omega)),aL (by rw [eZ (by omega)]; simp),aL (by simp; omega)]
  simp only [hg,ha]
  rw [aL (by simp [inB])]
  by_cases h : a = [115,101,100]
  ·subst h
   rw [aR (by simp),fZ (by omega) (by omega)]
   exact ⟨hi.1,fun hall => hi.2 fun l hl => hall l (List.mem_cons_of_mem _ hl)⟩
  ·rw [bJ (by simpa using h),aL (by rw [eZ (by omega)]; simp),aL (by simp; omega)]
   exact ⟨⟨_,rfl⟩,fun hall => by obtain ⟨r,hr⟩:=hall _ List.mem_cons_self; cases hr; exact absurd rfl h⟩
theorem Po {n : Nat} {out : List (List (List UInt8))} {beg : List Int} {b : Int} (hl : out.length <= 1000001) (hn : out.length < n) (hb : out.length <= beg.length) (hs : ∀ l ∈ out,∃ r,l = [115,101,100] :: r) : iB n (out,b,beg,()) = some (out,0,0) :=
 (zTp hl hb (fun l hl => by obtain ⟨r,rfl⟩:=hs l hl; simp) out [] n rfl hn).2 hs
theorem Jk (n : Nat) (s : List UInt8) (c : Int) : strings_IndexByte n (s,c) = some (Go.Lib.indexByte s c.toNat.toUInt8):=rfl
def mZ (o : UInt8) : List UInt8 -> List UInt8 × List UInt8 × Bool
 | [] => ([],[],false)
 | b :: r => if b = o then ([],r,true) else (b :: (mZ o r).1,(mZ o r).2.1,(mZ o r).2.2)
theorem zKx (o : UInt8) : ∀ s : List UInt8,Go.Lib.cut s [o] = mZ o s
 | [] => by simp [Go.Lib.cut,Go.Lib.index,mZ]
 | b :: r => by
  have ih:=zKx o r
  have hge:=Go.Lib.index_ge r [o]
  by_cases hb : b = o
  ·subst hb
   have hx : Go.Lib.index ((b : UInt8) :: r) [b] = 0:=by simp [Go.Lib.index]
   simp [Go.Lib.cut,mZ,hx]
  ·have h1 : ([o] : List UInt8).isPrefixOf (b :: r) = false:=by simp [List.isPrefixOf,Ne.symm hb]
   have hx : Go.Lib.index (b :: r) [o] = if Go.Lib.index r [o] = -1 then -1 else Go.Lib.index r [o] + 1:=by simp [Go.Lib.index,h1]
   unfold Go.Lib.cut at *
   simp only [mZ,if_neg hb,<- ih,hx]
   by_cases hi : Go.Lib.index r [o] = -1
   ·simp [hi]
   ·have h2 : 0 <= Go.Lib.index r [o]:=by omega
    have h3 : 0 <= Go.Lib.index r [o] + 1:=by omega
    have h4 : (Go.Lib.index r [o] + 1).toNat = (Go.Lib.index r [o]).toNat + 1:=by omega
    simp [hi,h2,h3,h4]
theorem cutB_hit {o : UInt8} : ∀ {s a r : List UInt8},mZ o s = (a,r,true) -> s = a ++ o :: r ∧ o ∉ a
 | [],_,_,h => by simp [mZ] at h
 | b :: s,a,r,h => by
  unfold mZ at h
  split at h
  ·rename_i hb
   simp only [Prod.mk.injEq,and_true] at h
   obtain ⟨rfl,rfl⟩:=h
   simp [hb]
  ·rename_i hb
   simp only [Prod.mk.injEq] at h
   obtain ⟨rfl,rfl,h3⟩:=h
   have hc : mZ o s = ((mZ o s).1,(mZ o s).2.1,true):=by rw [<- h3]
   obtain ⟨h1,h2⟩:=cutB_hit hc
   exact ⟨by rw [List.cons_append,<- h1],by simp [Ne.symm hb,h2]⟩
theorem zAx {o : UInt8} : ∀ {a : List UInt8} (r : List UInt8),o ∉ a -> mZ o (a ++ o :: r) = (a,r,true)
 | [],r,_ => by simp [mZ]
 | b :: a,r,h => by
  have h1 : b ≠ o:=fun e => h (by simp [e])
  have h2 : o ∉ a:=fun e => h (by simp [e])
  simp [mZ,h1,zAx r h2]
structure zYf (p : Nat) (out : List (List (List UInt8))) (inn : Bool) (stage : List (List UInt8)) (beg word : List Int) : Prop where
 lo : out.length <= p
 ls : stage.length <= p
 lb : beg.length <= p
 lw : word.length <= p
 ne : ∀ l ∈ out,l ≠ []
 zYg : beg.length = out.length + (if inn = true ∨ stage ≠ [] then 1 else 0)
def kU (inn : Bool) (stage : List (List UInt8)) (word : List Int) : List (List UInt8):=if inn = true then stage ++ [fH word] else stage
def gL (p : Int) (inn : Bool) (stage : List (List UInt8)) (beg : List Int) : List Int:=if inn = false ∧ stage = [] then beg ++ [p] else beg
end Go.Dec
