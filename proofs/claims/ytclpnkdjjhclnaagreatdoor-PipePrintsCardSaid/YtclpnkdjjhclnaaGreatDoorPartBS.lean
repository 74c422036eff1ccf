/- Part of a proof over this seat: a library of my own, and what it says of this seat. No statement is proved here. -/
import Derived.Test.YtclpnkdjjhclnaaGreatDoorPartBQ
import Derived.Test.YtclpnkdjjhclnaaGreatDoorPartBR
import Derived.KernelRfl
namespace Go.Dec
open Go.Proofs Go.RowKit Go.Sort Go.Lib
abbrev qP : List Ty := [.str, .int .u8]
abbrev qQ : List Ty := [.int .i64]
abbrev zJ : List Ty := [.slice .str, .str]
abbrev rC : List Ty := [.str]
abbrev nX : List Ty := [.str, .str, .str]
abbrev nY : List Ty := [.str]
theorem Ir {w w' : World} (h : Below w.heap.size w w') : Keep (fun _ _ => False) w w' := Keep.oC (M := fun _ => False) h.size (fun b hb _ => h.block b hb) (fun _ _ h => h)
theorem Uw {w : World} (hG : Glob Tryz.prog w) : ∃ m : Int, w.cell? ⟨0, 0, none⟩ = some (.int .i64 m) :=
 hG 0 (Tryz.prog.globals[0]'(by decide +kernel)) (by rw [Array.getElem?_eq_getElem]) (.int .i64) (by kernel_rfl)
theorem vY (n : Nat) : Pure Tryz.prog 28 qP qQ (strings_IndexByte n) := by
 refine ⟨by kernel_rfl, fun x y hF w N xs hG _ hx => ?_⟩
 obtain rfl := Option.some.inj hF
 obtain ⟨u, us, rfl, h1, v, rfl, h2⟩ := hx
 simp only [Ty.fT, Ty.isAgg, Bool.false_eq_true, if_false, Ty.Rel, List.cons.injEq, and_true] at h1 h2
 subst h1 h2
 refine (Tryz.strings_IndexByte _ _ w).mono ?_
 rintro e w' ⟨rfl, rfl⟩
 exact ⟨[_], rfl, rfl, rfl, rfl, Keep.refl _ _, _, rfl, by simp [Ty.fT, Ty.isAgg, Ty.Rel]⟩
theorem Tf {w : World} {N : Nat -> Nat -> Prop} : ∀ {xs : List (List UInt8)} {css : List (List Value)}, aI (fun x c => Ty.str.Rel w N x c) xs css -> css = xs.map fun x => [Value.string ⟨x.toArray⟩]
 | [], [], _ => rfl
 | x :: xs, c :: css, h => by
  obtain ⟨h1, h2⟩ := h
  simp only [Ty.Rel] at h1
  subst h1
  rw [List.map_cons, Tf h2]
 | [], _ :: _, h => h.elim
 | _ :: _, [], h => h.elim
theorem zEo : ∀ (xs : List (List UInt8)) (sep : List UInt8), bN xs sep = Go.Lib.join xs sep := by
 intro xs sep
 induction xs with
 | nil => rfl
 | cons x r ih =>
  cases r with
  | nil => simp [bN, Go.Lib.join]
  | cons y r => rw [bN, ih]; simp [Go.Lib.join]
theorem Cy (n : Nat) : Pure Tryz.prog 26 zJ rC (strings_Join n) := by
 refine ⟨by kernel_rfl, fun x y hF w N vs hG _ hx => ?_⟩
 obtain ⟨xs, sep⟩ := x
 obtain ⟨hc, hy⟩ := jI hF
 obtain rfl := Option.some.inj hy
 simp only [Bool.and_eq_true] at hc
 have hc1 := Nat.le_of_ble_eq_true hc.1
 have hc2 := Nat.le_of_ble_eq_true hc.2
 simp only [room] at hc1 hc2
 obtain ⟨u, us, rfl, h1, v, rfl, h2⟩ := hx
 simp only [Ty.fT, Ty.isAgg, Bool.false_eq_true, if_false, Ty.Rel, List.cons.injEq, and_true] at h1 h2
 subst h2
 obtain ⟨_, rfl, h1⟩ := h1
 have out : ∀ {e : Ending} {w' : World}, e = .returned (.string ⟨(bN xs sep).toArray⟩) -> Below w.heap.size w w' -> ∃ us : List Value, e = .returned (jW us) ∧ w'.os = w.os ∧ w'.tape = w.tape ∧ w'.output = w.output ∧ Keep (fun _ _ => False) w w' ∧ DensRel w' N rC (bN xs sep) us := by
  rintro e w' rfl hb
  exact ⟨[_], rfl, hb.os, hb.tape, hb.output, Ir hb, _, rfl, by simp [Ty.fT, Ty.isAgg, Ty.Rel]⟩
 rcases h1 with ⟨rfl, rfl⟩ | ⟨b, off, cap, css, rfl, hb, _, hl, _, hall, _, hcs⟩ | ⟨a, cap, rfl, rfl, _⟩
 ·refine (Tryz.strings_Join_none none 0 _ w).mono ?_
  rintro e w' ⟨rfl, rfl⟩
  exact out rfl (Below.refl _ _)
 ·have zCs := Tf (w := w) (N := N) hall
  have hj : Go.Lib.join ((xs.map fun x => (⟨x.toArray⟩ : ByteArray)).map (·.data.toList)) sep = bN xs sep := by
   rw [zEo, List.map_map]
   congr 1
   exact List.map_id xs
  have hcell : ∀ (j : Nat) (x : ByteArray), (xs.map fun x => (⟨x.toArray⟩ : ByteArray))[j]? = some x -> w.cell? ⟨b, off + j, none⟩ = some (.string x) := by
   intro j x hjx
   refine hcs j (.string x) ?_
   rw [zCs]
   rw [List.getElem?_map] at hjx
   have : ∀ (l : List (List UInt8)) (j : Nat), ((l.map fun x => [Value.string ⟨x.toArray⟩]).flatten)[j]? = (l[j]?).map fun x => Value.string ⟨x.toArray⟩ := by
    intro l
    induction l with
    | nil => intro j; simp
    | cons a l ih => intro j; cases j with
     | zero => simp
     | succ j => simpa using ih j
   rw [this]
   cases hx : xs[j]? with
   | none => rw [hx] at hjx; cases hjx
   | some z => rw [hx] at hjx; simp at hjx; subst hjx; rfl
  have := Tryz.strings_Join b off cap (xs.map fun x => (⟨x.toArray⟩ : ByteArray)) ⟨sep.toArray⟩ w hcell hb (by simpa using hc1) (by simpa using hl) (by rw [show (⟨sep.toArray⟩ : ByteArray).data.toList = sep by simp]; rw [hj]; exact hc2)
  rw [List.length_map] at this
  refine this.mono ?_
  rintro e w' ⟨rfl, hb'⟩
  refine out ?_ hb'
  rw [show (⟨sep.toArray⟩ : ByteArray).data.toList = sep by simp, hj]
 ·refine (Tryz.strings_Join_none (some a) cap _ w).mono ?_
  rintro e w' ⟨rfl, rfl⟩
  exact out rfl (Below.refl _ _)
theorem uM (n : Nat) : Pure Tryz.prog 30 nX nY (strings_ReplaceAll n) := by
 refine ⟨by kernel_rfl, fun x y hF w N vs hG _ hx => ?_⟩
 obtain ⟨s, o, new⟩ := x
 match o, hF with
 | [o], hF =>
  obtain ⟨hc, hy⟩ := jI hF
  obtain rfl := Option.some.inj hy
  simp only [Bool.and_eq_true] at hc
  have hc1 : s.length <= 1000000 := Nat.le_of_ble_eq_true hc.1
  have hc2 : new.length <= 1000 := Nat.le_of_ble_eq_true hc.2
  obtain ⟨u, us, rfl, h1, v, vs, rfl, h2, z, rfl, h3⟩ := hx
  simp only [Ty.fT, Ty.isAgg, Bool.false_eq_true, if_false, Ty.Rel, List.cons.injEq, and_true] at h1 h2 h3
  subst h1 h2 h3
  obtain ⟨m, hm⟩ := Uw hG
  have hcnt := Go.Lib.countB_mul_le (⟨[o].toArray⟩ : ByteArray) (by simp [ByteArray.size]) _ (⟨s.toArray⟩ : ByteArray) (Nat.le_refl _)
  have hs1 : (⟨s.toArray⟩ : ByteArray).size = s.length := by simp [ByteArray.size]
  have ho1 : (⟨[o].toArray⟩ : ByteArray).size = 1 := by simp [ByteArray.size]
  have hn1 : (⟨new.toArray⟩ : ByteArray).size = new.length := by simp [ByteArray.size]
  rw [hs1, ho1, Nat.mul_one] at hcnt
  have hmul : Go.Lib.countB (⟨s.toArray⟩ : ByteArray) ⟨[o].toArray⟩ * new.length <= 1000000 * 1000 := Nat.mul_le_mul (by omega) hc2
  refine (Tryz.strings_ReplaceAll _ _ _ m w (by rw [hs1]; omega) hm (by rw [ho1]; omega) (by rw [hs1, hn1]; omega)).mono ?_
  rintro e w' ⟨rfl, hb⟩
  refine ⟨[_], rfl, hb.os, hb.tape, hb.output, Ir hb, _, rfl, ?_⟩
  have := Lj o new s
  simp [Ty.fT, Ty.isAgg, Ty.Rel, this]
end Go.Dec
