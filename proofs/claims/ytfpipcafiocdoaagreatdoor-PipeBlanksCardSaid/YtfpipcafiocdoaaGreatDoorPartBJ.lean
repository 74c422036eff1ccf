/- Part of a proof over this seat: a library of my own, and what it says of this seat. No statement is proved here. -/
import Derived.Test.YtfpipcafiocdoaaGreatDoorPartAJ
import Derived.Lib.IndexMore
import Derived.Lib.Bytealg
import Derived.Lib.Replace
import Derived.Lib.SplitLaws
import Derived.Test.YtfpipcafiocdoaaGreatDoorPartBA
import Derived.Test.YtfpipcafiocdoaaGreatDoorPartAL
namespace Go.Dec
def strings_Cut (_n : Nat) (x : List UInt8 × List UInt8) : Option (List UInt8 × List UInt8 × Bool):=chk (decide (x.1.length < 4294967281)) (some (Go.Lib.cut x.1 x.2))
def strings_IndexByte (_n : Nat) (x : List UInt8 × Int) : Option Int:=some (Go.Lib.indexByte x.1 x.2.toNat.toUInt8)
def eO : List (List UInt8) -> List UInt8 -> List UInt8
 | [],_ => []
 | [x],_ => x
 | x :: y :: r,sep => x ++ sep ++ eO (y :: r) sep
def strings_Join (_n : Nat) (x : List (List UInt8) × List UInt8) : Option (List UInt8):=chk (Nat.ble x.1.length room && Nat.ble (eO x.1 x.2).length room) (some (eO x.1 x.2))
def bT (o : UInt8) (new : List UInt8) : List UInt8 -> List UInt8
 | [] => []
 | c :: r => if c = o then new ++ bT o new r else c :: bT o new r
def strings_ReplaceAll (_n : Nat) (x : List UInt8 × List UInt8 × List UInt8) : Option (List UInt8) :=
 match x.2.1 with
 | [o] => chk (Nat.ble x.1.length 1000000 && Nat.ble x.2.2.length 1000) (some (bT o x.2.2 x.1))
 | _ => none
theorem Ya (o : UInt8) (r : List UInt8) : Go.Lib.index (o :: r) [o] = 0:=by simp [Go.Lib.index]
theorem Yb {c o : UInt8} (r : List UInt8) (h : c ≠ o) : Go.Lib.index (c :: r) [o] = if Go.Lib.index r [o] = -1 then -1 else Go.Lib.index r [o] + 1:=by
 have h1 : ([o] : List UInt8).isPrefixOf (c :: r) = false:=by simp [List.isPrefixOf,Ne.symm h]
 simp [Go.Lib.index,h1]
theorem Dy (o : UInt8) (new : List UInt8) : ∀ s : List UInt8,Go.Lib.replaceK [o] new (Go.Lib.count s [o]) s = bT o new s
 | [] => by
  rw [Go.Lib.count_one]
  simp [Go.Lib.replaceK,bT]
 | c :: r => by
  have ih:=Dy o new r
  by_cases h : c = o
  ·subst h
   rw [Go.Lib.count_cons_eq,Nat.add_comm,Go.Lib.replaceK_hit [c] new _ (c :: r) 0 (Ya c r)]
   simp [bT,ih]
  ·rw [Go.Lib.count_cons_ne _ _ _ h]
   cases hk : Go.Lib.count r [o] with
   | zero =>
    rw [hk] at ih
    simp only [Go.Lib.replaceK] at ih ⊢
    simp only [bT,if_neg h,<- ih]
   | succ k =>
    obtain ⟨i,hi⟩:=Go.Lib.index_of_count (s:=r) (old:=[o]) (by omega)
    rw [hk,Go.Lib.replaceK_hit [o] new k r i hi] at ih
    have h2 : Go.Lib.index (c :: r) [o] = ((i + 1 : Nat) : Int):=by
     rw [Yb r h,hi,if_neg (by omega)]
     omega
    rw [Go.Lib.replaceK_hit [o] new k (c :: r) (i + 1) h2]
    simp only [bT,if_neg h,<- ih]
    simp
theorem Pn (o : UInt8) (new s : List UInt8) : Go.Lib.replaceAll s [o] new = bT o new s:=by
 unfold Go.Lib.replaceAll Go.Lib.replace
 by_cases h : [o] = new
 ·subst h
  rw [if_pos (by simp)]
  induction s with
  | nil => rfl
  | cons c r ih =>
   simp only [bT,<- ih]
   split
   ·rename_i h; subst h; rfl
   ·rfl
 ·rw [if_neg (by simpa using h)]
  have : Go.Lib.replaceNum s [o] (-1) = Go.Lib.count s [o]:=by simp [Go.Lib.replaceNum]
  rw [this,Dy]
end Go.Dec
namespace Go.Dec
def shown21 (_n : Nat) (_x : Unit) : Option Bool:=some true
end Go.Dec
