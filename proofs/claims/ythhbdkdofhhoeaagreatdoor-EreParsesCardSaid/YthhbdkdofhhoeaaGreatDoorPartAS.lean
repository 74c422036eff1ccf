/- Part of a proof over this seat: a library of my own, and what it says of this seat. No statement is proved here. -/
import Derived.Test.YthhbdkdofhhoeaaGreatDoorProg
import Derived.Test.YthhbdkdofhhoeaaGreatDoorPartAQ
import Derived.Test.YthhbdkdofhhoeaaGreatDoorPartAP
import Derived.KernelRfl
namespace Go.Dec
open Go.Proofs Go.RowKit Go.Sort Go.Lib
abbrev Ae:List Ty:=[.str,.str]
abbrev Af:List Ty:=[.str,.str,.bool]
abbrev mE:List Ty:=[.str,.int .u8]
abbrev mF:List Ty:=[.int .i64]
abbrev yE:List Ty:=[.int .i64]
abbrev yF:List Ty:=[.str]
abbrev Rn:List Ty:=[.slice .str,.str]
abbrev Fj:List Ty:=[.str]
theorem Ag {w w':World} (h:Below w.heap.size w w'):Keep (fun _ _=>False) w w':=Keep.pR (M:=fun _=>False) h.size (fun b hb _=>h.block b hb) (fun _ _ h=>h)
theorem Zj {w:World} (hG:Glob Tryz.prog w):∃ m:Int,w.cell? ⟨2,0,none⟩=some (.int .i64 m) :=
 hG 2 (Tryz.prog.globals[2]'(by decide +kernel)) (by rw [Array.getElem?_eq_getElem]) (.int .i64) (by kernel_rfl)
theorem yN (n:Nat):Pure Tryz.prog 84 Ae Af (strings_Cut n):=by
 refine ⟨by kernel_rfl,fun x y hF w N xs hG _ hx=>?_⟩
 obtain ⟨hc,hy⟩:=gQ hF
 have hc:=of_decide_eq_true hc
 obtain rfl:=Option.some.inj hy
 obtain ⟨u,us,rfl,h1,v,rfl,h2⟩:=hx
 simp only [Ty.bP,Ty.isAgg,Bool.false_eq_true,if_false,Ty.Rel,aL,and_true] at h1 h2
 subst h1 h2
 obtain ⟨m,hm⟩:=Zj hG
 refine (Tryz.strings_Cut _ _ m w (by simpa [ByteArray.size] using hc) hm).mono ?_
 rintro e w' ⟨rfl,k,rfl⟩
 refine ⟨[_,_,_],rfl,rfl,rfl,rfl,Keep.pR (M:=fun _=>False) (aX _) (fun _ _ _=>rfl) (fun _ _ h=>h),⟨_,_,rfl,?_,_,_,rfl,?_,_,rfl,?_⟩⟩ <;> simp [Ty.bP,Ty.isAgg,Ty.Rel]
theorem lN (n:Nat):Pure Tryz.prog 73 mE mF (strings_IndexByte n):=by
 refine ⟨by kernel_rfl,fun x y hF w N xs hG _ hx=>?_⟩
 obtain rfl:=Option.some.inj hF
 obtain ⟨u,us,rfl,h1,v,rfl,h2⟩:=hx
 simp only [Ty.bP,Ty.isAgg,Bool.false_eq_true,if_false,Ty.Rel,aL,and_true] at h1 h2
 subst h1 h2
 refine (Tryz.strings_IndexByte _ _ w).mono ?_
 rintro e w' ⟨rfl,rfl⟩
 exact ⟨[_],rfl,rfl,rfl,rfl,Keep.refl _ _,_,rfl,by simp [Ty.bP,Ty.isAgg,Ty.Rel]⟩
theorem zGp:∀ (k u:Nat),u < 10 ^ k->0 < k->zOf k u=Go.Lib.decDigits u
 | 0,u,_,h=>by omega
 | k+1,u,h,_=>by
  rw [zOf,Go.Lib.decDigits]
  by_cases hu:u < 10
  ·rw [if_pos hu,dif_pos hu]
  ·rw [if_neg hu,dif_neg hu]
   have hk:0 < k:=by
    rcases Nat.eq_zero_or_pos k with rfl | hk
    ·simp at h; omega
    ·exact hk
   rw [zGp k (u / 10) (by rw [Nat.pow_succ] at h; omega) hk]
theorem yCe {n:Int} (h0:-9223372036854775808 <= n) (h1:n <= 9223372036854775807):zVz n=Go.Lib.itoa n:=by
 unfold zVz Go.Lib.itoa
 split
 ·rw [zGp 20 _ (by omega) (by omega)]
 ·rw [zGp 20 _ (by omega) (by omega)]
theorem yCf:zCr=Go.Lib.pow10Tab:=by decide +kernel
theorem yCg {w:World} (hG:Glob Tryz.prog w):Go.Lib.TabIs Tryz.prog w "internal/strconv.uint64pow10" .u64 Go.Lib.pow10Tab:=by
 obtain ⟨a,b,h⟩:=hG 1 (Tryz.prog.globals[1]'(by decide +kernel)) (by rw [Array.getElem?_eq_getElem]) (.tab .u64 zCr) (by kernel_rfl)
 unfold Go.Lib.TabIs World.var?
 have hn:Tryz.prog.globalNamed "internal/strconv.uint64pow10" = some 1:=by kernel_rfl
 rw [hn,Option.bind_some,h,<- yCf]
theorem wW (n:Nat):Pure Tryz.prog 63 yE yF (strconv_Itoa n):=by
 refine ⟨by kernel_rfl,fun x y hF w N xs hG _ hx=>?_⟩
 obtain ⟨hc,hy⟩:=gQ hF
 obtain rfl:=Option.some.inj hy
 simp only [aG,decide_eq_true_eq] at hc
 obtain ⟨u,rfl,h1⟩:=hx
 simp only [Ty.bP,Ty.isAgg,Bool.false_eq_true,if_false,Ty.Rel,aL,and_true] at h1
 subst h1
 refine (Tryz.strconv_Itoa x hc.1 hc.2 w (yCg hG)).mono ?_
 rintro e w' ⟨rfl,k,os,rfl⟩
 refine ⟨[_],rfl,rfl,rfl,rfl,Keep.pR (M:=fun _=>False) (by simp) (fun b hb _=>Go.Sort.heap_grow_old _ _ (by simpa using hb)) (fun _ _ h=>h),_,rfl,by simp [Ty.bP,Ty.isAgg,Ty.Rel,yCe hc.1 hc.2]⟩
theorem zOg {w:World} {N:Nat->Nat->Prop}:∀ {xs:List (List UInt8)} {css:List (List Value)},aY (fun x c=>Ty.str.Rel w N x c) xs css->css=xs.map fun x=>[Value.string ⟨x.toArray⟩]
 | [],[],_=>rfl
 | x :: xs,c :: css,h=>by
  obtain ⟨h1,h2⟩:=h
  simp only [Ty.Rel] at h1
  subst h1
  rw [List.map_cons,zOg h2]
 | [],_ :: _,h=>h.elim
 | _ :: _,[],h=>h.elim
theorem yCh:∀ (xs:List (List UInt8)) (sep:List UInt8),Hg xs sep=Go.Lib.join xs sep:=by
 intro xs sep
 induction xs with
 | nil=>rfl
 | cons x r ih =>
  cases r with
  | nil=>simp [Hg,Go.Lib.join]
  | cons y r=>rw [Hg,ih]; simp [Go.Lib.join]
theorem Yj (n:Nat):Pure Tryz.prog 67 Rn Fj (strings_Join n):=by
 refine ⟨by kernel_rfl,fun x y hF w N vs hG _ hx=>?_⟩
 obtain ⟨xs,sep⟩:=x
 obtain ⟨hc,hy⟩:=gQ hF
 obtain rfl:=Option.some.inj hy
 simp only [aG] at hc
 have hc1:=bT hc.1
 have hc2:=bT hc.2
 simp only [room] at hc1 hc2
 obtain ⟨u,us,rfl,h1,v,rfl,h2⟩:=hx
 simp only [Ty.bP,Ty.isAgg,Bool.false_eq_true,if_false,Ty.Rel,aL,and_true] at h1 h2
 subst h2
 obtain ⟨_,rfl,h1⟩:=h1
 have out:∀ {e:Ending} {w':World},e=.returned (.string ⟨(Hg xs sep).toArray⟩)->Below w.heap.size w w'->∃ us:List Value,e=.returned (oC us)∧w'.os=w.os∧w'.tape=w.tape∧w'.output=w.output∧Keep (fun _ _=>False) w w'∧iH w' N Fj (Hg xs sep) us:=by
  rintro e w' rfl hb
  exact ⟨[_],rfl,hb.os,hb.tape,hb.output,Ag hb,_,rfl,by simp [Ty.bP,Ty.isAgg,Ty.Rel]⟩
 rcases h1 with ⟨rfl,rfl⟩ | ⟨b,off,cap,css,rfl,hb,_,hl,_,hall,_,hcs⟩ | ⟨a,cap,rfl,rfl,_⟩
 ·refine (Tryz.strings_Join_none none 0 _ w).mono ?_
  rintro e w' ⟨rfl,rfl⟩
  exact out rfl (Below.refl _ _)
 ·have zNb:=zOg (w:=w) (N:=N) hall
  have hj:Go.Lib.join ((xs.map fun x=>(⟨x.toArray⟩:ByteArray)).map (·.data.toList)) sep=Hg xs sep:=by
   rw [yCh,List.map_map]
   congr 1
   exact List.map_id xs
  have hcell:∀ (j:Nat) (x:ByteArray),(xs.map fun x=>(⟨x.toArray⟩:ByteArray))[j]?=some x->w.cell? ⟨b,off+j,none⟩=some (.string x):=by
   intro j x hjx
   refine hcs j (.string x) ?_
   rw [zNb]
   rw [List.getElem?_map] at hjx
   have:∀ (l:List (List UInt8)) (j:Nat),((l.map fun x=>[Value.string ⟨x.toArray⟩]).flatten)[j]?=(l[j]?).map fun x=>Value.string ⟨x.toArray⟩:=by
    intro l
    induction l with
    | nil=>intro j; simp
    | cons a l ih=>intro j; cases j with
     | zero=>simp
     | succ j=>simpa using ih j
   rw [this]
   cases hx:xs[j]? with
   | none=>rw [hx] at hjx; cases hjx
   | some z=>rw [hx] at hjx; simp at hjx; subst hjx; rfl
  have:=Tryz.strings_Join b off cap (xs.map fun x=>(⟨x.toArray⟩:ByteArray)) ⟨sep.toArray⟩ w hcell hb (by simpa using hc1) (by simpa using hl) (by rw [show (⟨sep.toArray⟩:ByteArray).data.toList=sep by simp]; rw [hj]; exact hc2)
  rw [List.length_map] at this
  refine this.mono ?_
  rintro e w' ⟨rfl,hb'⟩
  refine out ?_ hb'
  rw [show (⟨sep.toArray⟩:ByteArray).data.toList=sep by simp,hj]
 ·refine (Tryz.strings_Join_none (some a) cap _ w).mono ?_
  rintro e w' ⟨rfl,rfl⟩
  exact out rfl (Below.refl _ _)
theorem zGq {w:World} (hG:Glob Tryz.prog w):∃ v,w.cell? ⟨4,0,none⟩=some v∧(v=.nilIface∨∃ te pe,v=.iface te pe) :=
 hG 4 (Tryz.prog.globals[4]'(by decide +kernel)) (by rw [Array.getElem?_eq_getElem]) .any (by kernel_rfl)
end Go.Dec
namespace Go.Dec
open Go.Proofs Go.RowKit Go.Sort Go.Lib
abbrev Gb:List Ty:=[.str,.str]
abbrev Gc:List Ty:=[.bool]
theorem Nr (n:Nat):Pure Tryz.prog 81 Gb Gc (strings_Contains n):=by
 refine ⟨by kernel_rfl,fun x y hF w N xs hG _ hx=>?_⟩
 obtain ⟨hc,hy⟩:=gQ hF
 have hc:=of_decide_eq_true hc
 obtain rfl:=Option.some.inj hy
 obtain ⟨u,us,rfl,h1,v,rfl,h2⟩:=hx
 simp only [Ty.bP,Ty.isAgg,Bool.false_eq_true,if_false,Ty.Rel,aL,and_true] at h1 h2
 subst h1 h2
 obtain ⟨m,hm⟩:=Zj hG
 refine (Tryz.strings_Contains _ _ m w (by simpa [ByteArray.size] using hc) hm).mono ?_
 rintro e w' ⟨rfl,rfl⟩
 exact ⟨[_],rfl,rfl,rfl,rfl,Keep.refl _ _,_,rfl,by simp [Ty.bP,Ty.isAgg,Ty.Rel]⟩
end Go.Dec
namespace Go.Dec
open Go.Proofs Go.RowKit Go.Sort Go.Lib
abbrev Ns:List Ty:=[.str]
abbrev Nt:List Ty:=[.int .i64,.err]
theorem zKh {w:World} (hG:Glob Tryz.prog w):∃ v,w.cell? ⟨5,0,none⟩=some v∧(v=.nilIface∨∃ te pe,v=.iface te pe) :=
 hG 5 (Tryz.prog.globals[5]'(by decide +kernel)) (by rw [Array.getElem?_eq_getElem]) .any (by kernel_rfl)
theorem Uc (n:Nat):Pure Tryz.prog 167 Ns Nt (yC n):=by
 refine ⟨by kernel_rfl,fun x y hF w N vs hG _ hx=>?_⟩
 obtain ⟨hc,hy⟩:=gQ hF
 have hc1:=bT hc
 obtain ⟨u,rfl,h1⟩:=hx
 simp only [Ty.bP,Ty.isAgg,Bool.false_eq_true,if_false,Ty.Rel,aL,and_true] at h1
 subst h1
 obtain rfl:=Option.some.inj hy
 have hs:(⟨x.toArray⟩:ByteArray).data.toList=x:=by simp
 have hz:(⟨x.toArray⟩:ByteArray).size=x.length:=by simp [ByteArray.size]
 unfold zEa
 cases ha:Go.Lib.atoiAll x with
 | ok v =>
  refine (Tryz.strconv_Atoi_ok ⟨x.toArray⟩ (by rw [hz]; omega) v (by rw [hs]; exact ha) w).mono ?_
  rintro e w' ⟨rfl,rfl | ⟨t,rfl⟩⟩
  ·exact ⟨[_,_],rfl,rfl,rfl,rfl,Keep.refl _ _,_,_,rfl,by simp [Ty.bP,Ty.isAgg,Ty.Rel],_,rfl,by simp [Ty.bP,Ty.isAgg,Ty.Rel]⟩
  ·exact ⟨[_,_],rfl,rfl,rfl,rfl,Keep.pR (M:=fun _=>False) (by rw [Go.Lib.bytesWorld_size]; omega) (fun b hb _=>Go.Lib.bytesWorld_at_old _ _ _ b hb) (fun _ _ h=>h),_,_,rfl,by simp [Ty.bP,Ty.isAgg,Ty.Rel],_,rfl,by simp [Ty.bP,Ty.isAgg,Ty.Rel]⟩
 | «syntax» =>
  obtain ⟨ev,hv,hev⟩:=zGq hG
  refine (Tryz.strconv_Atoi_syntax ⟨x.toArray⟩ (by rw [hz]; omega) (by rw [hs]; exact ha) ev w hv hev).mono ?_
  rintro e w' ⟨N',rfl,_,_,hb⟩
  exact ⟨[_,_],rfl,hb.os,hb.tape,hb.output,Ag hb,_,_,rfl,by simp [Ty.bP,Ty.isAgg,Ty.Rel],_,rfl,by simp [Ty.bP,Ty.isAgg,Ty.Rel]⟩
 | range =>
  obtain ⟨ev,hv,hev⟩:=zKh hG
  refine (Tryz.strconv_Atoi_range ⟨x.toArray⟩ (by rw [hz]; omega) (by rw [hs]; exact ha) ev w hv hev).mono ?_
  rintro e w' ⟨N',rfl,_,_,hb⟩
  exact ⟨[_,_],rfl,hb.os,hb.tape,hb.output,Ag hb,_,_,rfl,by simp [Ty.bP,Ty.isAgg,Ty.Rel],_,rfl,by simp [Ty.bP,Ty.isAgg,Ty.Rel]⟩
end Go.Dec
