/- Part of a proof over this seat: a library of my own, and what it says of this seat. No statement is proved here. -/
import Derived.Test.YtdgneppobefaoaaGreatDoorPartAT
import Derived.Lib.Bytealg
namespace Go.Ce
def posB:List Nat->Nat->Nat->Int
 | [],_,_=>.negSucc 0
 | a :: r,c,i=>cnd (Nat.beq a c) (.ofNat i) (posB r c (i+1))
theorem zFs:∀ (l:List UInt8) (c i:Nat),c < 256->posB (l.map UInt8.toNat) c i=if Go.Lib.indexByte l (UInt8.ofNat c)=-1 then -1 else Go.Lib.indexByte l (UInt8.ofNat c)+i
 | [],c,i,_=>by simp [posB,Go.Lib.indexByte]
 | a :: l,c,i,hc=>by
  have ih:=zFs l c (i+1) hc
  have hge:=Go.Lib.indexByte_ge l (UInt8.ofNat c)
  simp only [List.map_cons,posB,Go.Lib.indexByte]
  unfold cnd
  by_cases h:a=UInt8.ofNat c
  ·subst h
   have:Nat.beq (UInt8.ofNat c).toNat c=true:=by
    rw [Nat.beq_eq]; simp; omega
   rw [this]
   simp
  ·have h1:Nat.beq a.toNat c=false:=by
    rw [Bool.eq_false_iff]
    intro h2
    rw [Nat.beq_eq] at h2
    apply h
    rw [<- h2]
    simp
   rw [h1]
   have h2:(a == UInt8.ofNat c)=false:=by simpa using h
   simp only [h2,Bool.false_eq_true,if_false]
   rw [ih]
   by_cases h3:Go.Lib.indexByte l (UInt8.ofNat c)=-1
   ·simp [h3]
   ·have h4:(Go.Lib.indexByte l (UInt8.ofNat c) == -1)=false:=by simpa using h3
    simp only [h3,h4,if_false,Bool.false_eq_true]
    rw [if_neg (by omega)]
    simp
    omega
abbrev Gv:=Nat->W->List AV->Option (AV × W)
def zJz:Gv:=fun _ A xs=>match xs with
 | [.st l,.it .u8 (.ofNat c)]=>ck (Nat.blt c 256) (some (.it .i64 (posB l c 0),A))
 | _=>none
theorem zVt {c:Nat} (h:c < 256):(Int.ofNat c).toNat.toUInt8=UInt8.ofNat c:=by simp
theorem zFt {P:Program} {f:FuncId} {fn:Func} (hf:P.funcs[f]?=some fn) (hname:(fn.name == "runtime.NumGoroutine")=false) (hb:fn.body.isNone=true) (hn:Extern.findNext fn=none) (he:Extern.find fn=some Extern.BytealgIndexByte.indexByte)
  (lo:Nat) (A:W) (args:List AV) (v:AV) (A':W) (h:zJz lo A args=some (v,A')):cZ P lo f args A (.ret v) A':=by
 intro β w xs hW hr
 unfold zJz at h
 split at h
 ·rename_i l c
  obtain ⟨hc,h⟩:=aM h
  rw [Nat.blt_eq] at hc
  simp only [aA,aB] at h
  obtain ⟨rfl,rfl⟩:=h
  obtain ⟨x,xs1,rfl,h1,y,ys,rfl,h2,h3⟩:=hr
  simp only [AV.aN] at h3
  subst h3
  obtain ⟨ba,rfl,rfl⟩:=h1
  simp only [AV.Rel] at h2
  subst h2
  refine .inr ⟨_,.int .i64 (posB (ba.data.toList.map UInt8.toNat) c 0),β,w,rfl,?_,.refl hW,rfl⟩
  rw [run_callFunc_extern hf hname hb hn he]
  rw [Go.Lib.run_indexByteString,zFs _ _ _ hc,zVt hc]
  simp only [Result.andThen_ok]
  congr 3
  split
  ·rename_i h4; rw [h4]
  ·simp
 ·cases h
end Go.Ce
