/- Part of a proof over this seat: a library of my own, and what it says of this seat. No statement is proved here. -/
import Derived.Test.YtdgneppobefaoaaGreatDoorPartBJ
import Derived.Test.YtdgneppobefaoaaGreatDoorPartBK
import Derived.KernelRfl
namespace Go.Dec
open Go.Proofs Go.RowKit Go.Sort Go.Lib
abbrev Vj:List Ty:=[.str,.str]
abbrev Vk:List Ty:=[.str,.str,.bool]
abbrev Bl:List Ty:=[.str,.int .u8]
abbrev Bn:List Ty:=[.int .i64]
theorem zDz {w w':World} (h:Below w.heap.size w w'):Keep (fun _ _=>False) w w':=Keep.mV (M:=fun _=>False) h.size (fun b hb _=>h.block b hb) (fun _ _ h=>h)
theorem zSr {w:World} (hG:Glob Tryz.prog w):∃ m:Int,w.cell? ⟨0,0,none⟩=some (.int .i64 m) :=
 hG 0 (Tryz.prog.globals[0]'(by decide +kernel)) (by rw [Array.getElem?_eq_getElem]) (.int .i64) (by kernel_rfl)
theorem zBf (n:Nat):Pure Tryz.prog 38 Vj Vk (strings_Cut n):=by
 refine ⟨by kernel_rfl,fun x y hF w N xs hG _ hx=>?_⟩
 obtain ⟨hc,hy⟩:=fD hF
 have hc:=of_decide_eq_true hc
 obtain rfl:=Option.some.inj hy
 obtain ⟨u,us,rfl,h1,v,rfl,h2⟩:=hx
 simp only [Ty.gG,Ty.isAgg,Bool.false_eq_true,if_false,Ty.Rel,aL,and_true] at h1 h2
 subst h1 h2
 obtain ⟨m,hm⟩:=zSr hG
 refine (Tryz.strings_Cut _ _ m w (by simpa [ByteArray.size] using hc) hm).mono ?_
 rintro e w' ⟨rfl,k,rfl⟩
 refine ⟨[_,_,_],rfl,rfl,rfl,rfl,Keep.mV (M:=fun _=>False) (aJ _) (fun _ _ _=>rfl) (fun _ _ h=>h),⟨_,_,rfl,?_,_,_,rfl,?_,_,rfl,?_⟩⟩ <;> simp [Ty.gG,Ty.isAgg,Ty.Rel]
theorem Ku (n:Nat):Pure Tryz.prog 34 Bl Bn (strings_IndexByte n):=by
 refine ⟨by kernel_rfl,fun x y hF w N xs hG _ hx=>?_⟩
 obtain rfl:=Option.some.inj hF
 obtain ⟨u,us,rfl,h1,v,rfl,h2⟩:=hx
 simp only [Ty.gG,Ty.isAgg,Bool.false_eq_true,if_false,Ty.Rel,aL,and_true] at h1 h2
 subst h1 h2
 refine (Tryz.strings_IndexByte _ _ w).mono ?_
 rintro e w' ⟨rfl,rfl⟩
 exact ⟨[_],rfl,rfl,rfl,rfl,Keep.refl _ _,_,rfl,by simp [Ty.gG,Ty.isAgg,Ty.Rel]⟩
end Go.Dec
