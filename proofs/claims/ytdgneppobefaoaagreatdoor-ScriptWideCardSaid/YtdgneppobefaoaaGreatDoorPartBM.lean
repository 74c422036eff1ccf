/- Part of a proof over this seat: a library of my own, and what it says of this seat. No statement is proved here. -/
import Derived.Test.YtdgneppobefaoaaGreatDoorPartBK
import Derived.Test.YtdgneppobefaoaaGreatDoorPartBL
import Derived.KernelRfl
namespace Go.Dec
open Go.Proofs Go.RowKit Go.Sort Go.Lib
abbrev lQ:List Ty:=[.str,.int .u8]
abbrev lS:List Ty:=[.int .i64]
theorem mE (n:Nat):Pure Tryz.prog 34 lQ lS (strings_IndexByte n):=by
 refine ⟨by kernel_rfl,fun x y hF w N xs hG _ hx=>?_⟩
 obtain rfl:=Option.some.inj hF
 obtain ⟨u,us,rfl,h1,v,rfl,h2⟩:=hx
 simp only [Ty.bK,Ty.isAgg,Bool.false_eq_true,if_false,Ty.Rel,aK,and_true] at h1 h2
 subst h1 h2
 refine (Tryz.strings_IndexByte _ _ w).mono ?_
 rintro e w' ⟨rfl,rfl⟩
 exact ⟨[_],rfl,rfl,rfl,rfl,Keep.refl _ _,_,rfl,by simp [Ty.bK,Ty.isAgg,Ty.Rel]⟩
end Go.Dec
