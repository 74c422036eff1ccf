/- Part of a proof over this seat: a library of my own, and what it says of this seat. No statement is proved here. -/
import Derived.Test.YtmpoakdpdflfgaaGreatDoorPnrtAJ
import Derived.Test.YtmpoakdpdflfgaaGreatDoorPnrtBJ
import Derived.Test.YtmpoakdpdflfgaaGreatDoorPnrtBA
namespace Go.Dec
set_option linter.unusedVariables false
def gV (n : Nat) (x : Bool × List (List UInt8) × List (Int) × Unit) : Option (Bool × List (List UInt8) × List (Int) × Unit) :=
 let b1 : Bool := x.1
 let zDj : List (List UInt8) := x.2.1
 let oH : List (Int) := x.2.2.1
 br b1 (
  chk (Nat.ble ((zDj.length + ([bZ oH] : List (List UInt8)).length) * 16) room) (
   some (false, zDj ++ [bZ oH], oH, ()))) (
  some (false, zDj, oH, ()))
def jH (n : Nat) (x : Bool × Int × List (List UInt8) × List (Int) × Unit) : Option (Bool × Int × List (List UInt8) × List (Int) × Unit) :=
 let b1 : Bool := x.1
 let b2 : Int := x.2.1
 let oH : List (List UInt8) := x.2.2.1
 let mK : List (Int) := x.2.2.2.1
 br (!b1) (
  let v5 : Int := ((oH.length : Nat) : Int)
  br (v5 == 0) (
   chk (Nat.ble ((mK.length + ([b2] : List (Int)).length) * 8) room) (
    some (true, b2, oH, mK ++ [b2], ()))) (
   some (true, b2, oH, mK, ()))) (
  some (true, b2, oH, mK, ()))
def Ho (n : Nat) (g0 : List UInt8 × Int × List (Int) × Unit -> Option (List (Int) × Int × Int)) (x1 : List UInt8 × Int × List (Int) × Unit) : Option (List (Int) × Int × Int) :=
 let s_2 : List UInt8 := x1.1
 let i_3 : Int := x1.2.1
 let mK : List (Int) := x1.2.2.1
 br (decide (i_3 < (s_2.length : Int))) (
  chk (inB i_3 s_2.length) (
   let v5 : Int := ((bD 0 s_2 i_3).toNat : Int)
   br (v5 == 34) (
    let v6 : Int := IntKind.wrap .i64 (i_3 + 1)
    some (mK, v6, (-1))) (
    ob (strings_IndexByte n ([36, 96], v5)) fun y7 =>
    br (decide (y7 ≥ 0)) (
     some ([], 0, i_3)) (
     br (v5 == 92) (
      let v8 : Int := IntKind.wrap .i64 (i_3 + 1)
      br (decide (v8 < (s_2.length : Int))) (
       let v9 : Int := IntKind.wrap .i64 (i_3 + 1)
       chk (inB v9 s_2.length) (
        let v10 : Int := ((bD 0 s_2 v9).toNat : Int)
        ob (strings_IndexByte n ([36, 34, 92, 96], v10)) fun y11 =>
        br (decide (y11 ≥ 0)) (
         let v12 : Int := IntKind.wrap .i64 (i_3 + 1)
         chk (inB v12 s_2.length) (
          let v13 : Int := ((bD 0 s_2 v12).toNat : Int)
          chk (Nat.ble ((mK.length + ([v13] : List (Int)).length) * 1) room) (
           let v14 : Int := IntKind.wrap .i64 (v12 + 1)
           g0 (s_2, v14, mK ++ [v13], ())))) (
         chk (inB i_3 s_2.length) (
          let v15 : Int := ((bD 0 s_2 i_3).toNat : Int)
          chk (Nat.ble ((mK.length + ([v15] : List (Int)).length) * 1) room) (
           let v16 : Int := IntKind.wrap .i64 (i_3 + 1)
           g0 (s_2, v16, mK ++ [v15], ())))))) (
       chk (inB i_3 s_2.length) (
        let v17 : Int := ((bD 0 s_2 i_3).toNat : Int)
        chk (Nat.ble ((mK.length + ([v17] : List (Int)).length) * 1) room) (
         let v18 : Int := IntKind.wrap .i64 (i_3 + 1)
         g0 (s_2, v18, mK ++ [v17], ()))))) (
      chk (inB i_3 s_2.length) (
       let v19 : Int := ((bD 0 s_2 i_3).toNat : Int)
       chk (Nat.ble ((mK.length + ([v19] : List (Int)).length) * 1) room) (
        let v20 : Int := IntKind.wrap .i64 (i_3 + 1)
        g0 (s_2, v20, mK ++ [v19], ())))))))) (
  some ([], 0, (-2)))
def vM (n : Nat) (x : List UInt8) : Option (List (Int) × Int × Int) :=
 let s_0 : List UInt8 := x
 fix (Ho n) n (s_0, 0, [], ())
def Jt (n : Nat) (g0 : List UInt8 × List (List (List UInt8)) × Bool × Int × List (List UInt8) × List (Int) × List (Int) × Unit -> Option (List (List (List UInt8)) × Int × Int)) (x50 : List UInt8 × List (List (List UInt8)) × Bool × Int × List (List UInt8) × List (Int) × List (Int) × Unit) : Option (List (List (List UInt8)) × Int × Int) :=
 let zRm : List UInt8 := x50.1
 let yAk : List (List (List UInt8)) := x50.2.1
 let b53 : Bool := x50.2.2.1
 let b54 : Int := x50.2.2.2.1
 let yAl : List (List UInt8) := x50.2.2.2.2.1
 let yAm : List (Int) := x50.2.2.2.2.2.1
 let zSp : List (Int) := x50.2.2.2.2.2.2.1
 ob (jH n (b53, b54, yAl, yAm, ())) fun y58 =>
 let v59 : Int := IntKind.wrap .i64 (y58.2.1 + 1)
 chk (inB v59 zRm.length) (
  let v60 : Int := ((bD 0 zRm v59).toNat : Int)
  chk (Nat.ble ((zSp.length + ([v60] : List (Int)).length) * 1) room) (
   let v61 : Int := IntKind.wrap .i64 (y58.2.1 + 2)
   g0 (zRm, yAk, y58.1, v61, y58.2.2.1, y58.2.2.2.1, zSp ++ [v60], ())))
def nJ (n : Nat) (g0 : List UInt8 × List (List (List UInt8)) × Bool × Int × List (List UInt8) × List (Int) × List (Int) × Unit -> Option (List (List (List UInt8)) × Int × Int)) (x25 : List UInt8 × Int × Bool × List (List (List UInt8)) × Bool × Int × List (List UInt8) × List (Int) × List (Int) × Unit) : Option (List (List (List UInt8)) × Int × Int) :=
 let yG : List UInt8 := x25.1
 let zDk : Int := x25.2.1
 let zZd : Bool := x25.2.2.1
 let Lx : List (List (List UInt8)) := x25.2.2.2.1
 let b30 : Bool := x25.2.2.2.2.1
 let b31 : Int := x25.2.2.2.2.2.1
 let Zz : List (List UInt8) := x25.2.2.2.2.2.2.1
 let zAa : List (Int) := x25.2.2.2.2.2.2.2.1
 let uJ : List (Int) := x25.2.2.2.2.2.2.2.2.1
 br zZd (
  some ([], b31, 210)) (
  br (zDk == 39) (
   let v35 : Int := IntKind.wrap .i64 (b31 + 1)
   chk ((decide (0 <= v35) && decide (v35 <= (yG.length : Int)))) (
    ob (strings_Cut n (yG.drop v35.toNat, [39])) fun y36 =>
    br (!y36.2.2) (
     some ([], b31, 210)) (
     ob (jH n (b30, b31, Zz, zAa, ())) fun y37 =>
     chk (Nat.ble ((uJ.length + y36.1.length) * 1) room) (
      let v38 : Int := IntKind.wrap .i64 ((y36.1.length : Int) + 2)
      let v39 : Int := IntKind.wrap .i64 (y37.2.1 + v38)
      g0 (yG, Lx, y37.1, v39, y37.2.2.1, y37.2.2.2.1, uJ ++ aO y36.1, ()))))) (
   br (zDk == 34) (
    let v40 : Int := IntKind.wrap .i64 (b31 + 1)
    chk ((decide (0 <= v40) && decide (v40 <= (yG.length : Int)))) (
     ob (vM n (yG.drop v40.toNat)) fun y41 =>
     br (y41.2.1 == 0) (
      br (decide (y41.2.2 ≥ 0)) (
       let v42 : Int := IntKind.wrap .i64 (1 + y41.2.2)
       let v43 : Int := IntKind.wrap .i64 (b31 + v42)
       some ([], v43, 210)) (
       some ([], b31, 210))) (
      ob (jH n (b30, b31, Zz, zAa, ())) fun y44 =>
      chk (Nat.ble ((uJ.length + y41.1.length) * 1) room) (
       let v45 : Int := IntKind.wrap .i64 (y41.2.1 + 1)
       let v46 : Int := IntKind.wrap .i64 (y44.2.1 + v45)
       g0 (yG, Lx, y44.1, v46, y44.2.2.1, y44.2.2.2.1, uJ ++ y41.1, ()))))) (
    br (zDk == 92) (
     let v47 : Int := IntKind.wrap .i64 (b31 + 1)
     br (v47 == (yG.length : Int)) (
      some ([], b31, 210)) (
      let v48 : Int := IntKind.wrap .i64 (b31 + 1)
      chk (inB v48 yG.length) (
       let v49 : Int := ((bD 0 yG v48).toNat : Int)
       br (v49 == 10) (
        some ([], b31, 210)) (
        jn (Jt n g0) (yG, Lx, b30, b31, Zz, zAa, uJ, ()))))) (
     ob (jH n (b30, b31, Zz, zAa, ())) fun y62 =>
     chk (Nat.ble ((uJ.length + ([zDk] : List (Int)).length) * 1) room) (
      let v63 : Int := IntKind.wrap .i64 (y62.2.1 + 1)
      g0 (yG, Lx, y62.1, v63, y62.2.2.1, y62.2.2.2.1, uJ ++ [zDk], ()))))))
def kI (n : Nat) (g0 : List UInt8 × List (List (List UInt8)) × Bool × Int × List (List UInt8) × List (Int) × List (Int) × Unit -> Option (List (List (List UInt8)) × Int × Int)) (x10 : List UInt8 × Int × Bool × List (List (List UInt8)) × Bool × Int × List (List UInt8) × List (Int) × List (Int) × Unit) : Option (List (List (List UInt8)) × Int × Int) :=
 let zDl : List UInt8 := x10.1
 let Pv : Int := x10.2.1
 let zZe : Bool := x10.2.2.1
 let Ma : List (List (List UInt8)) := x10.2.2.2.1
 let b15 : Bool := x10.2.2.2.2.1
 let b16 : Int := x10.2.2.2.2.2.1
 let Sw : List (List UInt8) := x10.2.2.2.2.2.2.1
 let Sy : List (Int) := x10.2.2.2.2.2.2.2.1
 let Sz : List (Int) := x10.2.2.2.2.2.2.2.2.1
 br zZe (
  ob (gV n (b15, Sw, Sz, ())) fun y20 =>
  let v21 : Int := IntKind.wrap .i64 (b16 + 1)
  g0 (zDl, Ma, y20.1, v21, y20.2.1, Sy, [], ())) (
  br (Pv == 124) (
   ob (gV n (b15, Sw, Sz, ())) fun y22 =>
   let v23 : Int := ((y22.2.1.length : Nat) : Int)
   br (v23 == 0) (
    some ([], b16, 210)) (
    chk (Nat.ble ((Ma.length + ([y22.2.1] : List (List (List UInt8))).length) * 24) room) (
     let v24 : Int := IntKind.wrap .i64 (b16 + 1)
     g0 (zDl, Ma ++ [y22.2.1], y22.1, v24, [], Sy, [], ())))) (
   br (Pv == 35) (
    br (!b15) (
     jn (nJ n g0) (zDl, Pv, (!b15), Ma, b15, b16, Sw, Sy, Sz, ())) (
     ob (strings_IndexByte n ([10, 59, 38, 60, 62, 40, 41, 36, 42, 63, 91, 96], Pv)) fun y64 =>
     jn (nJ n g0) (zDl, Pv, (decide (y64 ≥ 0)), Ma, b15, b16, Sw, Sy, Sz, ()))) (
    ob (strings_IndexByte n ([10, 59, 38, 60, 62, 40, 41, 36, 42, 63, 91, 96], Pv)) fun y65 =>
    jn (nJ n g0) (zDl, Pv, (decide (y65 ≥ 0)), Ma, b15, b16, Sw, Sy, Sz, ()))))
def iG (n : Nat) (g1 : Int × Int × List (List (List UInt8)) × Int × List (Int) × Unit -> Option (List (List (List UInt8)) × Int × Int)) (x73 : Int × Int × List (List (List UInt8)) × Int × List (Int) × Unit) : Option (List (List (List UInt8)) × Int × Int) :=
 let zHi : Int := x73.1
 let qK : Int := x73.2.1
 let Fq : List (List (List UInt8)) := x73.2.2.1
 let b77 : Int := x73.2.2.2.1
 let Mc : List (Int) := x73.2.2.2.2.1
 br (decide (qK < zHi)) (
  chk ((inB qK (Fq.length) && decide (0 + (Fq.length) <= Fq.length))) (
   chk (decide (0 + qK.toNat < Fq.length)) (
    let v79 : List (List UInt8) := Fq.getD (0 + qK.toNat) (Ty.dflt (.slice .str))
    chk (inB 0 v79.length) (
     let v80 : List UInt8 := bD (Ty.dflt .str) v79 0
     br (!(v80 == [115, 101, 100])) (
      chk ((inB qK (Mc.length) && decide (0 + (Mc.length) <= Mc.length))) (
       chk (decide (0 + qK.toNat < Mc.length)) (
        let v81 : Int := Mc.getD (0 + qK.toNat) (Ty.dflt (.int .i64))
        some ([], v81, 210)))) (
      let v82 : Int := IntKind.wrap .i64 (qK + 1)
      g1 (zHi, v82, Fq, b77, Mc, ())))))) (
  some (Fq, 0, 0))
def nK (n : Nat) (x68 : List (List (List UInt8)) × Int × List (Int) × Unit) : Option (List (List (List UInt8)) × Int × Int) :=
 let zAb : List (List (List UInt8)) := x68.1
 let b70 : Int := x68.2.1
 let zAc : List (Int) := x68.2.2.1
 let v72 : Int := ((zAb.length : Nat) : Int)
 fix (iG n) n (v72, 0, zAb, b70, zAc, ())
def iH (n : Nat) (g0 : List UInt8 × List (List (List UInt8)) × Bool × Int × List (List UInt8) × List (Int) × List (Int) × Unit -> Option (List (List (List UInt8)) × Int × Int)) (x1 : List UInt8 × List (List (List UInt8)) × Bool × Int × List (List UInt8) × List (Int) × List (Int) × Unit) : Option (List (List (List UInt8)) × Int × Int) :=
 let s_2 : List UInt8 := x1.1
 let oH : List (List (List UInt8)) := x1.2.1
 let b4 : Bool := x1.2.2.1
 let b5 : Int := x1.2.2.2.1
 let Vr : List (List UInt8) := x1.2.2.2.2.1
 let pY : List (Int) := x1.2.2.2.2.2.1
 let zRn : List (Int) := x1.2.2.2.2.2.2.1
 br (decide (b5 < (s_2.length : Int))) (
  chk (inB b5 s_2.length) (
   let v9 : Int := ((bD 0 s_2 b5).toNat : Int)
   br (v9 == 32) (
    jn (kI n g0) (s_2, v9, true, oH, b4, b5, Vr, pY, zRn, ())) (
    jn (kI n g0) (s_2, v9, (v9 == 9), oH, b4, b5, Vr, pY, zRn, ())))) (
  ob (gV n (b4, Vr, zRn, ())) fun y66 =>
  let v67 : Int := ((y66.2.1.length : Nat) : Int)
  br (decide (v67 > 0)) (
   chk (Nat.ble ((oH.length + ([y66.2.1] : List (List (List UInt8))).length) * 24) room) (
    jn (nK n) (oH ++ [y66.2.1], b5, pY, ()))) (
   let v83 : Int := ((oH.length : Nat) : Int)
   br (decide (v83 > 0)) (
    some ([], b5, 210)) (
    jn (nK n) (oH, b5, pY, ()))))
def rE (n : Nat) (x : List UInt8) : Option (List (List (List UInt8)) × Int × Int) :=
 let s_0 : List UInt8 := x
 fix (iH n) n (s_0, [], false, 0, [], [], [], ())
end Go.Dec
namespace Go.Dec
set_option linter.unusedSimpArgs false
theorem zLm {ρ α:Type} (f:α->Option ρ) (x:α):jn f x=f x:=rfl
theorem Xt {n:Nat} {inn:Bool} {stage:List (List UInt8)} {word:List Int} (h:stage.length <= 1000000):gV n (inn,stage,word,())=some (false,(if inn=true then stage++[bZ word] else stage),word,()):=by
 unfold gV
 simp only
 cases inn with
 | false=>simp
 | true =>
  rw [zJt,eB (by simp [room]; omega)]
  simp
theorem zZf {n:Nat} {out:List (List (List UInt8))} {beg:List Int} {b:Int} (hl:out.length <= 1000001) (hb:out.length <= beg.length) (hne:∀ l ∈ out,l ≠ []):∀ (q p:List (List (List UInt8))) (m:Nat),out=p++q->q.length < m ->
  (∃ r,fix (iG n) m ((out.length:Int),(p.length:Int),out,b,beg,())=some r) ∧
  ((∀ l ∈ q,∃ r,l=[115,101,100] :: r)->fix (iG n) m ((out.length:Int),(p.length:Int),out,b,beg,())=some (out,0,0)):=by
 intro q
 induction q with
 | nil =>
  intro p m hp hm
  have hp:p=out:=by simpa using hp.symm
  subst hp
  rw [fK (by omega),iG]
  simp only
  rw [dG (by simp)]
  exact ⟨⟨_,rfl⟩,fun _=>rfl⟩
 | cons l q ih =>
  intro p m hp hm
  have hm':q.length+1 < m:=hm
  have hlen:out.length=p.length+q.length+1:=by rw [hp]; simp; omega
  obtain ⟨a,l',rfl⟩:=List.exists_cons_of_ne_nil (hne l (by rw [hp]; simp))
  have hg:out.getD (0+(p.length:Int).toNat) (Ty.dflt (.slice .str))=a :: l':=by
   rw [hp]; simp [List.getD_eq_getElem?_getD]
  have ha:bD (Ty.dflt .str) (a :: l') 0=a:=by simp [bD]
  have hi:=ih (p++[a :: l']) (m - 1) (by rw [hp]; simp) (by omega)
  rw [show ((p++[a :: l']).length:Int)=(p.length:Int)+1 by simp] at hi
  rw [fK (by omega),iG]
  simp only
  rw [gI (decide_eq_true (by omega)),eB (by rw [xS (by omega)]; simp),eB (by simp; omega)]
  simp only [hg,ha]
  rw [eB (by simp [inB])]
  by_cases h:a=[115,101,100]
  ·subst h
   rw [dG (by simp),uD (by omega) (by omega)]
   exact ⟨hi.1,fun hall=>hi.2 fun l hl=>hall l (List.mem_cons_of_mem _ hl)⟩
  ·rw [gI (by simpa using h),eB (by rw [xS (by omega)]; simp),eB (by simp; omega)]
   exact ⟨⟨_,rfl⟩,fun hall=>by obtain ⟨r,hr⟩:=hall _ List.mem_cons_self; cases hr; exact absurd rfl h⟩
theorem zVe {n:Nat} {out:List (List (List UInt8))} {beg:List Int} {b:Int} (hl:out.length <= 1000001) (hn:out.length < n) (hb:out.length <= beg.length) (hs:∀ l ∈ out,∃ r,l=[115,101,100] :: r):nK n (out,b,beg,())=some (out,0,0) :=
 (zZf hl hb (fun l hl=>by obtain ⟨r,rfl⟩:=hs l hl; simp) out [] n rfl hn).2 hs
def Fv (o:UInt8):List UInt8->List UInt8 × List UInt8 × Bool
 | []=>([],[],false)
 | b :: r=>if b=o then ([],r,true) else (b :: (Fv o r).1,(Fv o r).2.1,(Fv o r).2.2)
theorem cutB_hit {o:UInt8}:∀ {s a r:List UInt8},Fv o s=(a,r,true)->s=a++o :: r∧o ∉ a
 | [],_,_,h=>by simp [Fv] at h
 | b :: s,a,r,h=>by
  unfold Fv at h
  split at h
  ·rename_i hb
   simp only [Prod.mk.injEq,and_true] at h
   obtain ⟨rfl,rfl⟩:=h
   simp [hb]
  ·rename_i hb
   simp only [Prod.mk.injEq] at h
   obtain ⟨rfl,rfl,h3⟩:=h
   have hc:Fv o s=((Fv o s).1,(Fv o s).2.1,true):=by rw [<- h3]
   obtain ⟨h1,h2⟩:=cutB_hit hc
   exact ⟨by rw [List.cons_append,<- h1],by simp [Ne.symm hb,h2]⟩
structure yCv (p:Nat) (out:List (List (List UInt8))) (inn:Bool) (stage:List (List UInt8)) (beg word:List Int):Prop where
 lo:out.length <= p
 ls:stage.length <= p
 lb:beg.length <= p
 lw:word.length <= p
 ne:∀ l ∈ out,l ≠ []
 yCw:beg.length=out.length+(if inn=true∨stage ≠ [] then 1 else 0)
end Go.Dec
