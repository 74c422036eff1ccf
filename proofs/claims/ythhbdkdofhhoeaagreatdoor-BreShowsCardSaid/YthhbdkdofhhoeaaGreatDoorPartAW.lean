/- Part of a proof over this seat: a library of my own, and what it says of this seat. No statement is proved here. -/
import Derived.Test.YthhbdkdofhhoeaaGreatDoorProg
import Derived.Test.YthhbdkdofhhoeaaGreatDoorPartAU
import Derived.Test.YthhbdkdofhhoeaaGreatDoorShelf
import Derived.KernelRfl
namespace Go.Dec
open Go.Proofs Go.RowKit Go.Sort Go.Lib
abbrev Jr : List Ty := [.str, .str]
abbrev Js : List Ty := [.str, .str, .bool]
abbrev lV : List Ty := [.str, .int .u8]
abbrev lW : List Ty := [.int .i64]
abbrev sJ : List Ty := [.int .i64]
abbrev sK : List Ty := [.str]
abbrev Ht : List Ty := [.str]
abbrev Hu : List Ty := [.int .i64, .err]
abbrev Hw : List Ty := [.slice .str, .str]
abbrev xW : List Ty := [.str]
theorem yX {w w' : World} (h : Below w.heap.size w w') : Keep (fun _ => False) w w' := ⟨h.size, fun b hb _ => h.block b hb⟩
theorem zCw {w : World} (hG : Glob Tryz.prog w) : ∃ m : Int, w.cell? ⟨2, 0, none⟩ = some (.int .i64 m) :=
 hG 2 (Tryz.prog.globals[2]'(by decide +kernel)) (by rw [Array.getElem?_eq_getElem]) (.int .i64) (by kernel_rfl)
theorem Pn (n : Nat) : Pure Tryz.prog 84 Jr Js (strings_Cut n) := by
 refine ⟨by kernel_rfl, fun x y hF w N xs hG _ hx => ?_⟩
 obtain ⟨hc, hy⟩ := gQ hF
 have hc := of_decide_eq_true hc
 obtain rfl := Option.some.inj hy
 obtain ⟨u, us, rfl, h1, v, rfl, h2⟩ := hx
 simp only [Ty.eT, Ty.isAgg, Bool.false_eq_true, if_false, Ty.Rel, List.cons.injEq, and_true] at h1 h2
 subst h1 h2
 obtain ⟨m, hm⟩ := zCw hG
 refine (Tryz.strings_Cut _ _ m w (by simpa [ByteArray.size] using hc) hm).mono ?_
 rintro e w' ⟨rfl, k, rfl⟩
 refine ⟨[_, _, _], rfl, rfl, rfl, rfl, ⟨Nat.le_refl _, fun _ _ _ => rfl⟩, ⟨_, _, rfl, ?_, _, _, rfl, ?_, _, rfl, ?_⟩⟩ <;> simp [Ty.eT, Ty.isAgg, Ty.Rel]
theorem mO (n : Nat) : Pure Tryz.prog 73 lV lW (strings_IndexByte n) := by
 refine ⟨by kernel_rfl, fun x y hF w N xs hG _ hx => ?_⟩
 obtain rfl := Option.some.inj hF
 obtain ⟨u, us, rfl, h1, v, rfl, h2⟩ := hx
 simp only [Ty.eT, Ty.isAgg, Bool.false_eq_true, if_false, Ty.Rel, List.cons.injEq, and_true] at h1 h2
 subst h1 h2
 refine (Tryz.strings_IndexByte _ _ w).mono ?_
 rintro e w' ⟨rfl, rfl⟩
 exact ⟨[_], rfl, rfl, rfl, rfl, Keep.refl _ _, _, rfl, by simp [Ty.eT, Ty.isAgg, Ty.Rel]⟩
theorem Uz : ∀ (k u : Nat), u < 10 ^ k -> 0 < k -> zAl k u = Go.Lib.decDigits u
 | 0, u, _, h => by omega
 | k + 1, u, h, _ => by
  rw [zAl, Go.Lib.decDigits]
  by_cases hu : u < 10
  ·rw [if_pos hu, dif_pos hu]
  ·rw [if_neg hu, dif_neg hu]
   have hk : 0 < k := by
    rcases Nat.eq_zero_or_pos k with rfl | hk
    ·simp at h; omega
    ·exact hk
   rw [Uz k (u / 10) (by rw [Nat.pow_succ] at h; omega) hk]
theorem zKz {n : Int} (h0 : -9223372036854775808 <= n) (h1 : n <= 9223372036854775807) : Bw n = Go.Lib.itoa n := by
 unfold Bw Go.Lib.itoa
 split
 ·rw [Uz 20 _ (by omega) (by omega)]
 ·rw [Uz 20 _ (by omega) (by omega)]
theorem zLa : Qq = Go.Lib.pow10Tab := by decide +kernel
theorem zLb {w : World} (hG : Glob Tryz.prog w) : Go.Lib.TabIs Tryz.prog w "internal/strconv.uint64pow10" .u64 Go.Lib.pow10Tab := by
 obtain ⟨a, b, h⟩ := hG 1 (Tryz.prog.globals[1]'(by decide +kernel)) (by rw [Array.getElem?_eq_getElem]) (.tab .u64 Qq) (by kernel_rfl)
 unfold Go.Lib.TabIs World.var?
 have hn : Tryz.prog.globalNamed "internal/strconv.uint64pow10" = some 1 := by kernel_rfl
 rw [hn, Option.bind_some, h, <- zLa]
theorem qZ (n : Nat) : Pure Tryz.prog 63 sJ sK (strconv_Itoa n) := by
 refine ⟨by kernel_rfl, fun x y hF w N xs hG _ hx => ?_⟩
 obtain ⟨hc, hy⟩ := gQ hF
 obtain rfl := Option.some.inj hy
 simp only [Bool.and_eq_true, decide_eq_true_eq] at hc
 obtain ⟨u, rfl, h1⟩ := hx
 simp only [Ty.eT, Ty.isAgg, Bool.false_eq_true, if_false, Ty.Rel, List.cons.injEq, and_true] at h1
 subst h1
 refine (Tryz.strconv_Itoa x hc.1 hc.2 w (zLb hG)).mono ?_
 rintro e w' ⟨rfl, k, os, rfl⟩
 refine ⟨[_], rfl, rfl, rfl, rfl, ⟨by simp, fun b hb _ => ?_⟩, _, rfl, by simp [Ty.eT, Ty.isAgg, Ty.Rel, zKz hc.1 hc.2]⟩
 exact Go.Sort.heap_grow_old _ _ (by simpa using hb)
theorem zAm {w : World} {N : Nat -> Prop} : ∀ {xs : List (List UInt8)} {css : List (List Value)}, aS (fun x c => Ty.str.Rel w N x c) xs css -> css = xs.map fun x => [Value.string ⟨x.toArray⟩]
 | [], [], _ => rfl
 | x :: xs, c :: css, h => by
  obtain ⟨h1, h2⟩ := h
  simp only [Ty.Rel] at h1
  subst h1
  rw [List.map_cons, zAm h2]
 | [], _ :: _, h => h.elim
 | _ :: _, [], h => h.elim
theorem zLc : ∀ (xs : List (List UInt8)) (sep : List UInt8), yU xs sep = Go.Lib.join xs sep := by
 intro xs sep
 induction xs with
 | nil => rfl
 | cons x r ih =>
  cases r with
  | nil => simp [yU, Go.Lib.join]
  | cons y r => rw [yU, ih]; simp [Go.Lib.join]
theorem Nh (n : Nat) : Pure Tryz.prog 67 Hw xW (strings_Join n) := by
 refine ⟨by kernel_rfl, fun x y hF w N vs hG _ hx => ?_⟩
 obtain ⟨xs, sep⟩ := x
 obtain ⟨hc, hy⟩ := gQ hF
 obtain rfl := Option.some.inj hy
 simp only [Bool.and_eq_true] at hc
 have hc1 := Nat.le_of_ble_eq_true hc.1
 have hc2 := Nat.le_of_ble_eq_true hc.2
 simp only [room] at hc1 hc2
 obtain ⟨u, us, rfl, h1, v, rfl, h2⟩ := hx
 simp only [Ty.eT, Ty.isAgg, Bool.false_eq_true, if_false, Ty.Rel, List.cons.injEq, and_true] at h1 h2
 subst h2
 obtain ⟨_, rfl, h1⟩ := h1
 have out : ∀ {e : Ending} {w' : World}, e = .returned (.string ⟨(yU xs sep).toArray⟩) -> Below w.heap.size w w' -> ∃ us : List Value, e = .returned (lQ us) ∧ w'.os = w.os ∧ w'.tape = w.tape ∧ w'.output = w.output ∧ Keep (fun _ => False) w w' ∧ eX w' N xW (yU xs sep) us := by
  rintro e w' rfl hb
  exact ⟨[_], rfl, hb.os, hb.tape, hb.output, yX hb, _, rfl, by simp [Ty.eT, Ty.isAgg, Ty.Rel]⟩
 rcases h1 with ⟨rfl, rfl⟩ | ⟨b, off, cap, css, rfl, hb, _, hl, _, hall, _, hcs⟩ | ⟨a, cap, rfl, rfl, _⟩
 ·refine (Tryz.strings_Join_none none 0 _ w).mono ?_
  rintro e w' ⟨rfl, rfl⟩
  exact out rfl (Below.refl _ _)
 ·have zKm := zAm (w := w) (N := N) hall
  have hj : Go.Lib.join ((xs.map fun x => (⟨x.toArray⟩ : ByteArray)).map (·.data.toList)) sep = yU xs sep := by
   rw [zLc, List.map_map]
   congr 1
   exact List.map_id xs
  have hcell : ∀ (j : Nat) (x : ByteArray), (xs.map fun x => (⟨x.toArray⟩ : ByteArray))[j]? = some x -> w.cell? ⟨b, off + j, none⟩ = some (.string x) := by
   intro j x hjx
   refine hcs j (.string x) ?_
   rw [zKm]
   rw [List.getElem?_map] at hjx
   have : ∀ (l : List (List UInt8)) (j : Nat), ((l.map fun x => [Value.string ⟨x.toArray⟩]).flatten)[j]? = (l[j]?).map fun x => Value.string ⟨x.toArray⟩ := by
    intro l
    induction l with
    | nil => intro j; simp
    | cons a l ih => intro j; cases j with
     | zero => simp
     | succ j => simpa using ih j
   rw [this]
   cases hx : xs[j]? with
   | none => rw [hx] at hjx; cases hjx
   | some z => rw [hx] at hjx; simp at hjx; subst hjx; rfl
  have := Tryz.strings_Join b off cap (xs.map fun x => (⟨x.toArray⟩ : ByteArray)) ⟨sep.toArray⟩ w hcell hb (by simpa using hc1) (by simpa using hl) (by rw [show (⟨sep.toArray⟩ : ByteArray).data.toList = sep by simp]; rw [hj]; exact hc2)
  rw [List.length_map] at this
  refine this.mono ?_
  rintro e w' ⟨rfl, hb'⟩
  refine out ?_ hb'
  rw [show (⟨sep.toArray⟩ : ByteArray).data.toList = sep by simp, hj]
 ·refine (Tryz.strings_Join_none (some a) cap _ w).mono ?_
  rintro e w' ⟨rfl, rfl⟩
  exact out rfl (Below.refl _ _)
theorem Va {w : World} (hG : Glob Tryz.prog w) : ∃ v, w.cell? ⟨4, 0, none⟩ = some v ∧ (v = .nilIface ∨ ∃ te pe, v = .iface te pe) :=
 hG 4 (Tryz.prog.globals[4]'(by decide +kernel)) (by rw [Array.getElem?_eq_getElem]) .any (by kernel_rfl)
theorem Rx : ∀ (l : List UInt8) (acc : Nat), l.all isDigit = true -> Go.Lib.decFrom acc l = some (l.foldl (fun a c => a * 10 + (c.toNat - 48)) acc)
 | [], acc, _ => rfl
 | c :: l, acc, h => by
  simp only [List.all_cons, Bool.and_eq_true] at h
  have hd : Go.Lib.digitVal c = some (c.toNat - 48) := by
   unfold Go.Lib.digitVal
   rw [if_pos]
   simpa [isDigit] using h.1
  simp only [Go.Lib.decFrom, hd, List.foldl_cons]
  exact Rx l _ h.2
theorem zNu {c : UInt8} {l : List UInt8} (h : (c :: l).all isDigit = true) : Go.Lib.atoi (c :: l) = some ((zFx (c :: l) : Nat) : Int) := by
 have hc : isDigit c = true := by simp only [List.all_cons, Bool.and_eq_true] at h; exact h.1
 have hc2 : 48 <= c.toNat ∧ c.toNat <= 57 := by simpa [isDigit] using hc
 have h1 : (c == 45) = false := by rw [beq_eq_false_iff_ne]; intro e; subst e; revert hc2; decide
 have h2 : (c == 43) = false := by rw [beq_eq_false_iff_ne]; intro e; subst e; revert hc2; decide
 simp only [Go.Lib.atoi, h1, h2, Bool.false_eq_true, if_false, Go.Lib.decNat, List.isEmpty_cons, Rx _ _ h, Option.map_some]
 rfl
theorem Ni (n : Nat) : Pure Tryz.prog 167 Ht Hu (strconv_Atoi n) := by
 refine ⟨by kernel_rfl, fun x y hF w N vs hG _ hx => ?_⟩
 obtain ⟨hc, hy⟩ := gQ hF
 simp only [Bool.and_eq_true] at hc
 have hc1 := Nat.le_of_ble_eq_true hc.1
 obtain ⟨u, rfl, h1⟩ := hx
 simp only [Ty.eT, Ty.isAgg, Bool.false_eq_true, if_false, Ty.Rel, List.cons.injEq, and_true] at h1
 subst h1
 cases x with
 | nil =>
  obtain rfl := Option.some.inj hy
  obtain ⟨ev, hv, hev⟩ := Va hG
  refine (Tryz.strconv_Atoi_err ⟨#[]⟩ (by decide) rfl ev w hv hev).mono ?_
  rintro e w' ⟨N', rfl, _, _, hb⟩
  exact ⟨[_, _], rfl, hb.os, hb.tape, hb.output, yX hb, _, _, rfl, by simp [Ty.eT, Ty.isAgg, Ty.Rel], _, rfl, by simp [Ty.eT, Ty.isAgg, Ty.Rel]⟩
 | cons c l =>
  obtain rfl := Option.some.inj hy
  refine (Tryz.strconv_Atoi ⟨(c :: l).toArray⟩ _ (by simpa [ByteArray.size] using hc1) (by simpa using zNu hc.2) w).mono ?_
  rintro e w' ⟨rfl, t, rfl⟩
  refine ⟨[_, _], rfl, rfl, rfl, rfl, ⟨by rw [Go.Lib.bytesWorld_size]; omega, fun b hb _ => Go.Lib.bytesWorld_at_old _ _ _ b hb⟩, _, _, rfl, by simp [Ty.eT, Ty.isAgg, Ty.Rel], _, rfl, by simp [Ty.eT, Ty.isAgg, Ty.Rel]⟩
end Go.Dec
