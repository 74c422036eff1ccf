/- Part of a proof over this seat: a library of my own, and what it says of this seat. No statement is proved here. -/
import Derived.Test.YtdgneppobefaoaaGreatDoorPartBK
import Derived.Test.YtdgneppobefaoaaGreatDoorPartBO
import Derived.Test.YtdgneppobefaoaaGreatDoorPartBM
import Derived.Test.YtdgneppobefaoaaGreatDoorPartBN
import Derived.Test.YtdgneppobefaoaaGreatDoorPartBJ
import Derived.Test.YtdgneppobefaoaaGreatDoorPartAY
import Derived.Test.YtdgneppobefaoaaGreatDoorPartAK
namespace Go.Dec
def zAm (v:Nat):List UInt8:=if v < 8 then [UInt8.ofNat (48+v)] else if v < 64 then [UInt8.ofNat (48+v / 8),UInt8.ofNat (48+v % 8)] else [UInt8.ofNat (48+v / 8 / 8),UInt8.ofNat (48+v / 8 % 8),UInt8.ofNat (48+v % 8)]
def fM (_n:Nat) (x:Int × Int):Option (List UInt8):=chk (x.2 == 8 && (decide (0 <= x.1) && decide (x.1 < 256))) (some (zAm x.1.toNat))
def strings_Repeat (_n:Nat) (x:List UInt8 × Int):Option (List UInt8):=chk (x.1 == [48] && (decide (0 <= x.2) && decide (x.2 < 3))) (some (List.replicate x.2.toNat 48))
def yI:Nat->Nat->List UInt8
 | 0,_=>[]
 | k+1,u=>if u < 10 then [UInt8.ofNat (48+u)] else yI k (u / 10)++[UInt8.ofNat (48+u % 10)]
def vO (n:Int):List UInt8:=if n < 0 then 45 :: yI 20 n.natAbs else yI 20 n.toNat
def strconv_Itoa (_n:Nat) (x:Int):Option (List UInt8):=chk (decide (-9223372036854775808 <= x) && decide (x <= 9223372036854775807)) (some (vO x))
end Go.Dec
namespace Go.Dec
open Go.Proofs Go.RowKit Go.Ce Go.Sort
abbrev qR:List Ty:=[.int .u64,.int .i64]
abbrev qU:List Ty:=[.str]
abbrev kD:List Ty:=[.str,.int .i64]
abbrev kE:List Ty:=[.str]
abbrev Cn:List Ty:=[.int .i64]
abbrev Cq:List Ty:=[.str]
abbrev zAn:List Ty:=[]
abbrev zAo:List Ty:=[.bool]
theorem zAp (n:Nat):Pure Tryz.prog 14 zAn zAo (shown22 n):=Tryz.shown22
theorem zCh (v:Int) (w:World) (h0:0 <= v) (h1:v < 256) (hG:Glob Tryz.prog w):Calls Tryz.prog 186 #[.slice none 0 0,.int .u64 v,.int .i64 8,.bool false,.bool false] w fun e w'=>e=.returned (.tuple #[.slice none 0 0,.string ⟨(zAm v.toNat).toArray⟩])∧Below w.heap.size w w':=by
 obtain ⟨n,rfl⟩:∃ n:Nat,v=n:=⟨v.toNat,by omega⟩
 unfold zAm
 by_cases c1:n < 8
 ·rw [if_pos (by simpa using c1)]
  exact Vi n w h0 (by omega) hG
 rw [if_neg (by simpa using c1)]
 by_cases c2:n < 64
 ·rw [if_pos (by simpa using c2)]
  have:=Vj n w (by omega) (by omega) hG
  rwa [show ((n:Int) / 8).toNat=(n:Int).toNat / 8 by omega,show ((n:Int) % 8).toNat=(n:Int).toNat % 8 by omega] at this
 rw [if_neg (by simpa using c2)]
 have:=Vk n w (by omega) (by omega) hG
 rwa [show ((n:Int) / 8 / 8).toNat=(n:Int).toNat / 8 / 8 by omega,show ((n:Int) / 8 % 8).toNat=(n:Int).toNat / 8 % 8 by omega,show ((n:Int) % 8).toNat=(n:Int).toNat % 8 by omega] at this
theorem Sy (v:Int) (w:World) (h0:0 <= v) (h1:v < 256) (hG:Glob Tryz.prog w):Calls Tryz.prog 131 #[.int .u64 v,.int .i64 8] w fun e w'=>e=.returned (.string ⟨(zAm v.toNat).toArray⟩)∧Below w.heap.size w w':=by
 have zVm:∀ args w,(callFunc 186 args).run Tryz.prog w=.ok (.enter 186 args) w:=fun args w=>dX (by kernel_rfl) args w
 go_enter Tryz.func131,Tryz.ntmps131
 go_wp2_with (go_at_call 186; refine (zCh v _ h0 h1 hG).mono ?_; rintro e w' ⟨rfl,hb⟩)
 go_ret
 exact ⟨rfl,hb⟩
theorem zCi (v:Int) (w:World) (h0:0 <= v) (h1:v < 256) (hG:Glob Tryz.prog w):Calls Tryz.prog 94 #[.int .u64 v,.int .i64 8] w fun e w'=>e=.returned (.string ⟨(zAm v.toNat).toArray⟩)∧Below w.heap.size w w':=by
 have e109:∀ args w,(callFunc 131 args).run Tryz.prog w=.ok (.enter 131 args) w:=fun args w=>dX (by kernel_rfl) args w
 go_enter Tryz.func94,Tryz.ntmps94
 go_wp2_with (go_at_call 131; refine (Sy v _ h0 h1 hG).mono ?_; rintro e w' ⟨rfl,hb⟩)
 go_ret
 exact ⟨rfl,hb⟩
theorem wZ (n:Nat):Pure Tryz.prog 94 qR qU (fM n):=by
 refine ⟨by kernel_rfl,fun x y hF w N vs hG _ hx=>?_⟩
 obtain ⟨v,b⟩:=x
 obtain ⟨hc,hy⟩:=gQ hF
 obtain rfl:=Option.some.inj hy
 simp only [aD,decide_eq_true_eq,beq_iff_eq] at hc
 obtain ⟨rfl,h0,h1⟩:=hc
 obtain ⟨u,us,rfl,hv,u2,rfl,hb2⟩:=hx
 simp only [Ty.bH,Ty.isAgg,Bool.false_eq_true,if_false,Ty.Rel,aJ,and_true] at hv hb2
 subst hv hb2
 refine (zCi v w h0 h1 hG).mono ?_
 rintro e w' ⟨rfl,hb⟩
 exact ⟨[_],rfl,hb.os,hb.tape,hb.output,zHj hb,_,rfl,by simp [Ty.bH,Ty.isAgg,Ty.Rel]⟩
theorem zTe:zAb Tryz.E 95 kD kE 2000 [] (([48]:List UInt8),(0:Int))=some []:=by kernel_rfl
theorem zTf:zAb Tryz.E 95 kD kE 2000 [] (([48]:List UInt8),(1:Int))=some [48]:=by kernel_rfl
theorem zTg:zAb Tryz.E 95 kD kE 2000 [] (([48]:List UInt8),(2:Int))=some [48,48]:=by kernel_rfl
theorem Df (n:Nat):Pure Tryz.prog 95 kD kE (strings_Repeat n):=by
 refine zAc Tryz.E_ok (by kernel_rfl) fun (x:List UInt8 × Int) y hxy bs hbs=>⟨2000,?_⟩
 obtain ⟨s,k⟩:=x
 obtain ⟨hc,hy⟩:=gQ hxy
 obtain rfl:=Option.some.inj hy
 simp only [aD,decide_eq_true_eq,beq_iff_eq] at hc
 obtain ⟨rfl,h0,h1⟩:=hc
 have hb:bs=[]:=List.length_eq_zero_iff.1 hbs
 subst hb
 have:k=0∨k=1∨k=2:=by omega
 rcases this with rfl | rfl | rfl
 ·exact zTe
 ·exact zTf
 ·exact zTg
theorem Sz:∀ (k u:Nat),u < 10 ^ k->0 < k->yI k u=Go.Lib.decDigits u
 | 0,u,_,h=>by omega
 | k+1,u,h,_=>by
  rw [yI,Go.Lib.decDigits]
  by_cases hu:u < 10
  ·rw [if_pos hu,dif_pos hu]
  ·rw [if_neg hu,dif_neg hu]
   have hk:0 < k:=by
    rcases Nat.eq_zero_or_pos k with rfl | hk
    ·simp at h; omega
    ·exact hk
   rw [Sz k (u / 10) (by rw [Nat.pow_succ] at h; omega) hk]
theorem zNe {n:Int} (h0:-9223372036854775808 <= n) (h1:n <= 9223372036854775807):vO n=Go.Lib.itoa n:=by
 unfold vO Go.Lib.itoa
 split
 ·rw [Sz 20 _ (by omega) (by omega)]
 ·rw [Sz 20 _ (by omega) (by omega)]
theorem zNf:Nf=Go.Lib.pow10Tab:=by decide +kernel
theorem zNg {w:World} (hG:Glob Tryz.prog w):Go.Lib.TabIs Tryz.prog w "internal/strconv.uint64pow10" .u64 Go.Lib.pow10Tab:=by
 obtain ⟨a,b,h⟩:=hG 3 (Tryz.prog.globals[3]'(by decide +kernel)) (by rw [Array.getElem?_eq_getElem]) (.tab .u64 Nf) (by kernel_rfl)
 unfold Go.Lib.TabIs World.var?
 have hn:Tryz.prog.globalNamed "internal/strconv.uint64pow10" = some 3:=by kernel_rfl
 rw [hn,Option.bind_some,h,<- zNf]
theorem Hr (n:Nat):Pure Tryz.prog 51 Cn Cq (strconv_Itoa n):=by
 refine ⟨by kernel_rfl,fun x y hF w N xs hG _ hx=>?_⟩
 obtain ⟨hc,hy⟩:=gQ hF
 obtain rfl:=Option.some.inj hy
 simp only [aD,decide_eq_true_eq] at hc
 obtain ⟨u,rfl,h1⟩:=hx
 simp only [Ty.bH,Ty.isAgg,Bool.false_eq_true,if_false,Ty.Rel,aJ,and_true] at h1
 subst h1
 refine (Tryz.strconv_Itoa x hc.1 hc.2 w (zNg hG)).mono ?_
 rintro e w' ⟨rfl,k,os,rfl⟩
 refine ⟨[_],rfl,rfl,rfl,rfl,Keep.mG (M:=fun _=>False) (by simp) (fun b hb _=>Go.Sort.heap_grow_old _ _ (by simpa using hb)) (fun _ _ h=>h),_,rfl,by simp [Ty.bH,Ty.isAgg,Ty.Rel,zNe hc.1 hc.2]⟩
end Go.Dec
