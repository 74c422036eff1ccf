/- Part of a proof over this seat: a library of my own, and what it says of this seat. No statement is proved here. -/
import Derived.Test.YtdgneppobefaoaaGreatDoorPartBJ
import Derived.Test.YtdgneppobefaoaaGreatDoorPartBK
import Derived.KernelRfl
namespace Go.Dec
open Go.Proofs Go.RowKit Go.Sort Go.Lib
abbrev Jl:List Ty:=[.str,.str]
abbrev Jm:List Ty:=[.str,.str,.bool]
theorem zRv {w:World} (hG:Glob Tryz.prog w):∃ m:Int,w.cell? ⟨0,0,none⟩=some (.int .i64 m) :=
 hG 0 (Tryz.prog.globals[0]'(by decide +kernel)) (by rw [Array.getElem?_eq_getElem]) (.int .i64) (by kernel_rfl)
theorem Jo (n:Nat):Pure Tryz.prog 38 Jl Jm (strings_Cut n):=by
 refine ⟨by kernel_rfl,fun x y hF w N xs hG _ hx=>?_⟩
 obtain ⟨hc,hy⟩:=jX hF
 have hc:=of_decide_eq_true hc
 obtain rfl:=Option.some.inj hy
 obtain ⟨u,us,rfl,h1,v,rfl,h2⟩:=hx
 simp only [Ty.jO,Ty.isAgg,Bool.false_eq_true,if_false,Ty.Rel,aO,and_true] at h1 h2
 subst h1 h2
 obtain ⟨m,hm⟩:=zRv hG
 refine (Tryz.strings_Cut _ _ m w (by simpa [ByteArray.size] using hc) hm).mono ?_
 rintro e w' ⟨rfl,k,rfl⟩
 refine ⟨[_,_,_],rfl,rfl,rfl,rfl,Keep.pX (M:=fun _=>False) (aK _) (fun _ _ _=>rfl) (fun _ _ h=>h),⟨_,_,rfl,?_,_,_,rfl,?_,_,rfl,?_⟩⟩ <;> simp [Ty.jO,Ty.isAgg,Ty.Rel]
end Go.Dec
