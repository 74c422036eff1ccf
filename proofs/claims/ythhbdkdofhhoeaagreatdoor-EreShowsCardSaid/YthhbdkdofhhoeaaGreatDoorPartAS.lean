/- Part of a proof over this seat: a library of my own, and what it says of this seat. No statement is proved here. -/
import Derived.Test.YthhbdkdofhhoeaaGreatDoorProg
import Derived.Test.YthhbdkdofhhoeaaGreatDoorPartAQ
import Derived.Test.YthhbdkdofhhoeaaGreatDoorPartAP
import Derived.KernelRfl
namespace Go.Dec
open Go.Proofs Go.RowKit Go.Sort Go.Lib
abbrev yK:List Ty:=[.str,.str]
abbrev yL:List Ty:=[.str,.str,.bool]
abbrev lF:List Ty:=[.str,.int .u8]
abbrev lG:List Ty:=[.int .i64]
abbrev wK:List Ty:=[.int .i64]
abbrev wL:List Ty:=[.str]
abbrev Ov:List Ty:=[.slice .str,.str]
abbrev Da:List Ty:=[.str]
theorem yM{w w':World}(h:Below w.heap.size w w'):Keep (λ_ _=>False) w w':=Keep.nV (M:=λ_=>False) h.size (λb hb _=>h.block b hb) (λ_ _ h=>h)
theorem Wh{w:World}(hG:Glob Tryz.prog w):∃ m:Int,w.cell? ⟨2,0,none⟩=some (.int .i64 m):=
 hG 2 (Tryz.prog.globals[2]'(by decide +kernel)) (by rw[Array.getElem?_eq_getElem]) (.int .i64) (by kernel_rfl)
theorem wU(n:Nat):Pure Tryz.prog 84 yK yL (strings_Cut n):=by
 refine⟨by kernel_rfl,λx y hF w N xs hG _ hx=>?_⟩;obtain⟨hc,hy⟩:=fU hF;have hc:=of_decide_eq_true hc;obtain rfl:=Option.some.inj hy;obtain⟨u,us,rfl,h1,v,rfl,h2⟩:=hx;simp only[Ty.bK,Ty.isAgg,Bool.false_eq_true,if_false,Ty.Rel,aK,and_true]at h1 h2;subst h1 h2;obtain⟨m,hm⟩:=Wh hG;refine(Tryz.strings_Cut _ _ m w (by simpa [ByteArray.size]using hc) hm).mono ?_;rintro e w' ⟨rfl,k,rfl⟩;refine⟨[_,_,_],rfl,rfl,rfl,rfl,Keep.nV (M:=λ_=>False) (aQ _) (λ_ _ _=>rfl) (λ_ _ h=>h),⟨_,_,rfl,?_,_,_,rfl,?_,_,rfl,?_⟩⟩<;>simp[Ty.bK,Ty.isAgg,Ty.Rel]
theorem kP(n:Nat):Pure Tryz.prog 73 lF lG (strings_IndexByte n):=by
 refine⟨by kernel_rfl,λx y hF w N xs hG _ hx=>?_⟩;obtain rfl:=Option.some.inj hF;obtain⟨u,us,rfl,h1,v,rfl,h2⟩:=hx;simp only[Ty.bK,Ty.isAgg,Bool.false_eq_true,if_false,Ty.Rel,aK,and_true]at h1 h2;subst h1 h2;refine(Tryz.strings_IndexByte _ _ w).mono ?_;rintro e w' ⟨rfl,rfl⟩;exact⟨[_],rfl,rfl,rfl,rfl,Keep.refl _ _,_,rfl,by simp[Ty.bK,Ty.isAgg,Ty.Rel]⟩
theorem zDn:∀ (k u:Nat),u<10 ^ k->0<k->zJy k u=Go.Lib.decDigits u
 |0,u,_,h=>by omega
 |k+1,u,h,_=>by
  rw[zJy,Go.Lib.decDigits];by_cases hu:u<10
  ·rw[if_pos hu,dif_pos hu]
  ·rw[if_neg hu,dif_neg hu];have hk:0<k:=by
    rcases Nat.eq_zero_or_pos k with rfl|hk
    ·simp at h;omega
    ·exact hk
   rw[zDn k (u / 10) (by rw[Nat.pow_succ]at h;omega) hk]
theorem zXu{n:Int}(h0:-9223372036854775808<=n)(h1:n<=9223372036854775807):Ii n=Go.Lib.itoa n:=by
 unfold Ii Go.Lib.itoa;split
 ·rw[zDn 20 _ (by omega) (by omega)]
 ·rw[zDn 20 _ (by omega) (by omega)]
theorem zXv:Zh=Go.Lib.pow10Tab:=by decide +kernel
theorem zXw {w:World}(hG:Glob Tryz.prog w):Go.Lib.TabIs Tryz.prog w "internal/strconv.uint64pow10" .u64 Go.Lib.pow10Tab:=by
 obtain⟨a,b,h⟩:=hG 1 (Tryz.prog.globals[1]'(by decide +kernel)) (by rw[Array.getElem?_eq_getElem]) (.tab .u64 Zh) (by kernel_rfl);unfold Go.Lib.TabIs World.var?
 have hn:Tryz.prog.globalNamed "internal/strconv.uint64pow10" = some 1:=by kernel_rfl
 rw[hn,Option.bind_some,h,<- zXv]
theorem vG(n:Nat):Pure Tryz.prog 63 wK wL (strconv_Itoa n):=by
 refine⟨by kernel_rfl,λx y hF w N xs hG _ hx=>?_⟩;obtain⟨hc,hy⟩:=fU hF;obtain rfl:=Option.some.inj hy;simp only[aF,decide_eq_true_eq]at hc;obtain⟨u,rfl,h1⟩:=hx;simp only[Ty.bK,Ty.isAgg,Bool.false_eq_true,if_false,Ty.Rel,aK,and_true]at h1;subst h1;refine(Tryz.strconv_Itoa x hc.1 hc.2 w (zXw hG)).mono ?_;rintro e w' ⟨rfl,k,os,rfl⟩;refine⟨[_],rfl,rfl,rfl,rfl,Keep.nV (M:=λ_=>False) (by simp) (λb hb _=>Go.Sort.heap_grow_old _ _ (by simpa using hb)) (λ_ _ h=>h),_,rfl,by simp[Ty.bK,Ty.isAgg,Ty.Rel,zXu hc.1 hc.2]⟩
theorem zJz{w:World}{N:Nat->Nat->Prop}:∀ {xs:List (List UInt8)}{css:List (List Value)},aX (λx c=>Ty.str.Rel w N x c) xs css->css=xs.map λx=>[Value.string ⟨x.toArray⟩]
 |[],[],_=>rfl
 |x::xs,c::css,h=>by
  obtain⟨h1,h2⟩:=h;simp only[Ty.Rel]at h1;subst h1;rw[List.map_cons,zJz h2]
 |[],_::_,h=>h.elim
 |_::_,[],h=>h.elim
theorem zXx:∀ (xs:List (List UInt8)) (sep:List UInt8),Eh xs sep=Go.Lib.join xs sep:=by
 intro xs sep;induction xs with
 |nil=>rfl
 |cons x r ih =>
  cases r with
  |nil=>simp[Eh,Go.Lib.join]
  |cons y r=>rw[Eh,ih];simp[Go.Lib.join]
theorem Vg(n:Nat):Pure Tryz.prog 67 Ov Da (strings_Join n):=by
 refine⟨by kernel_rfl,λx y hF w N vs hG _ hx=>?_⟩;obtain⟨xs,sep⟩:=x;obtain⟨hc,hy⟩:=fU hF;obtain rfl:=Option.some.inj hy;simp only[aF]at hc;have hc1:=bP hc.1;have hc2:=bP hc.2;simp only[room]at hc1 hc2;obtain⟨u,us,rfl,h1,v,rfl,h2⟩:=hx;simp only[Ty.bK,Ty.isAgg,Bool.false_eq_true,if_false,Ty.Rel,aK,and_true]at h1 h2;subst h2;obtain⟨_,rfl,h1⟩:=h1;have out:∀ {e:Ending}{w':World},e=.returned (.string ⟨(Eh xs sep).toArray⟩)->Below w.heap.size w w'->∃ us:List Value,e=.returned (nE us)/\w'.os=w.os/\w'.tape=w.tape/\w'.output=w.output/\Keep (λ_ _=>False) w w'/\gV w' N Da (Eh xs sep) us:=by
  rintro e w' rfl hb;exact⟨[_],rfl,hb.os,hb.tape,hb.output,yM hb,_,rfl,by simp[Ty.bK,Ty.isAgg,Ty.Rel]⟩
 rcases h1 with ⟨rfl,rfl⟩|⟨b,off,cap,css,rfl,hb,_,hl,_,hall,_,hcs⟩|⟨a,cap,rfl,rfl,_⟩
 ·refine(Tryz.strings_Join_none none 0 _ w).mono ?_;rintro e w' ⟨rfl,rfl⟩;exact out rfl (Below.refl _ _)
 ·have zIx:=zJz (w:=w) (N:=N) hall;have hj:Go.Lib.join ((xs.map λx=>(⟨x.toArray⟩:ByteArray)).map (·.data.toList)) sep=Eh xs sep:=by
   rw[zXx,List.map_map];congr 1;exact List.map_id xs
  have hcell:∀ (j:Nat) (x:ByteArray),(xs.map λx=>(⟨x.toArray⟩:ByteArray))[j]?=some x->w.cell? ⟨b,off+j,none⟩=some (.string x):=by
   intro j x hjx;refine hcs j (.string x) ?_;rw[zIx];rw[List.getElem?_map]at hjx;have:∀ (l:List (List UInt8)) (j:Nat),((l.map λx=>[Value.string ⟨x.toArray⟩]).flatten)[j]?=(l[j]?).map λx=>Value.string ⟨x.toArray⟩:=by
    intro l;induction l with
    |nil=>intro j;simp
    |cons a l ih=>intro j;cases j with
     |zero=>simp
     |succ j=>simpa using ih j
   rw[this];cases hx:xs[j]? with
   |none=>rw[hx]at hjx;cases hjx
   |some z=>rw[hx]at hjx;simp at hjx;subst hjx;rfl
  have:=Tryz.strings_Join b off cap (xs.map λx=>(⟨x.toArray⟩:ByteArray)) ⟨sep.toArray⟩ w hcell hb (by simpa using hc1) (by simpa using hl) (by rw[show(⟨sep.toArray⟩:ByteArray).data.toList=sep by simp];rw[hj];exact hc2);rw[List.length_map]at this;refine this.mono ?_;rintro e w' ⟨rfl,hb'⟩;refine out ?_ hb';rw[show(⟨sep.toArray⟩:ByteArray).data.toList=sep by simp,hj]
 ·refine(Tryz.strings_Join_none (some a) cap _ w).mono ?_;rintro e w' ⟨rfl,rfl⟩;exact out rfl (Below.refl _ _)
theorem zDo{w:World}(hG:Glob Tryz.prog w):∃ v,w.cell? ⟨4,0,none⟩=some v/\(v=.nilIface\/∃ te pe,v=.iface te pe):=
 hG 4 (Tryz.prog.globals[4]'(by decide +kernel)) (by rw[Array.getElem?_eq_getElem]) .any (by kernel_rfl)
end Go.Dec
namespace Go.Dec
open Go.Proofs Go.RowKit Go.Sort Go.Lib
abbrev Dh:List Ty:=[.str,.str]
abbrev Di:List Ty:=[.bool]
theorem Ko(n:Nat):Pure Tryz.prog 81 Dh Di (strings_Contains n):=by
 refine⟨by kernel_rfl,λx y hF w N xs hG _ hx=>?_⟩;obtain⟨hc,hy⟩:=fU hF;have hc:=of_decide_eq_true hc;obtain rfl:=Option.some.inj hy;obtain⟨u,us,rfl,h1,v,rfl,h2⟩:=hx;simp only[Ty.bK,Ty.isAgg,Bool.false_eq_true,if_false,Ty.Rel,aK,and_true]at h1 h2;subst h1 h2;obtain⟨m,hm⟩:=Wh hG;refine(Tryz.strings_Contains _ _ m w (by simpa [ByteArray.size]using hc) hm).mono ?_;rintro e w' ⟨rfl,rfl⟩;exact⟨[_],rfl,rfl,rfl,rfl,Keep.refl _ _,_,rfl,by simp[Ty.bK,Ty.isAgg,Ty.Rel]⟩
end Go.Dec
namespace Go.Dec
open Go.Proofs Go.RowKit Go.Sort Go.Lib
abbrev Kq:List Ty:=[.str]
abbrev Kr:List Ty:=[.int .i64,.err]
theorem zGe{w:World}(hG:Glob Tryz.prog w):∃ v,w.cell? ⟨5,0,none⟩=some v/\(v=.nilIface\/∃ te pe,v=.iface te pe):=
 hG 5 (Tryz.prog.globals[5]'(by decide +kernel)) (by rw[Array.getElem?_eq_getElem]) .any (by kernel_rfl)
theorem Qw(n:Nat):Pure Tryz.prog 167 Kq Kr (wI n):=by
 refine⟨by kernel_rfl,λx y hF w N vs hG _ hx=>?_⟩;obtain⟨hc,hy⟩:=fU hF;have hc1:=bP hc;obtain⟨u,rfl,h1⟩:=hx;simp only[Ty.bK,Ty.isAgg,Bool.false_eq_true,if_false,Ty.Rel,aK,and_true]at h1;subst h1;obtain rfl:=Option.some.inj hy;have hs:(⟨x.toArray⟩:ByteArray).data.toList=x:=by simp
 have hz:(⟨x.toArray⟩:ByteArray).size=x.length:=by simp[ByteArray.size]
 unfold zAs;cases ha:Go.Lib.atoiAll x with
 |ok v =>
  refine(Tryz.strconv_Atoi_ok ⟨x.toArray⟩ (by rw[hz];omega) v (by rw[hs];exact ha) w).mono ?_;rintro e w' ⟨rfl,rfl|⟨t,rfl⟩⟩
  ·exact⟨[_,_],rfl,rfl,rfl,rfl,Keep.refl _ _,_,_,rfl,by simp[Ty.bK,Ty.isAgg,Ty.Rel],_,rfl,by simp[Ty.bK,Ty.isAgg,Ty.Rel]⟩
  ·exact⟨[_,_],rfl,rfl,rfl,rfl,Keep.nV (M:=λ_=>False) (by rw[Go.Lib.bytesWorld_size];omega) (λb hb _=>Go.Lib.bytesWorld_at_old _ _ _ b hb) (λ_ _ h=>h),_,_,rfl,by simp[Ty.bK,Ty.isAgg,Ty.Rel],_,rfl,by simp[Ty.bK,Ty.isAgg,Ty.Rel]⟩
 | «syntax» =>
  obtain⟨ev,hv,hev⟩:=zDo hG;refine(Tryz.strconv_Atoi_syntax ⟨x.toArray⟩ (by rw[hz];omega) (by rw[hs];exact ha) ev w hv hev).mono ?_;rintro e w' ⟨N',rfl,_,_,hb⟩;exact⟨[_,_],rfl,hb.os,hb.tape,hb.output,yM hb,_,_,rfl,by simp[Ty.bK,Ty.isAgg,Ty.Rel],_,rfl,by simp[Ty.bK,Ty.isAgg,Ty.Rel]⟩
 |range =>
  obtain⟨ev,hv,hev⟩:=zGe hG;refine(Tryz.strconv_Atoi_range ⟨x.toArray⟩ (by rw[hz];omega) (by rw[hs];exact ha) ev w hv hev).mono ?_;rintro e w' ⟨N',rfl,_,_,hb⟩;exact⟨[_,_],rfl,hb.os,hb.tape,hb.output,yM hb,_,_,rfl,by simp[Ty.bK,Ty.isAgg,Ty.Rel],_,rfl,by simp[Ty.bK,Ty.isAgg,Ty.Rel]⟩
end Go.Dec
