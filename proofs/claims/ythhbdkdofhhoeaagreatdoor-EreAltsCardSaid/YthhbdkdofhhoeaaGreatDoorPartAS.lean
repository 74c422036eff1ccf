/- Part of a proof over this seat: a library of my own, and what it says of this seat. No statement is proved here. -/
import Derived.Test.YthhbdkdofhhoeaaGreatDoorProg
import Derived.Test.YthhbdkdofhhoeaaGreatDoorPartAQ
import Derived.Test.YthhbdkdofhhoeaaGreatDoorPartAP
import Derived.KernelRfl
namespace Go.Dec
open Go.Proofs Go.RowKit Go.Sort Go.Lib
abbrev yA:List Ty:=[.str,.str]
abbrev yB:List Ty:=[.str,.str,.bool]
abbrev lI:List Ty:=[.str,.int .u8]
abbrev lJ:List Ty:=[.int .i64]
abbrev wH:List Ty:=[.int .i64]
abbrev wI:List Ty:=[.str]
abbrev Ms:List Ty:=[.slice .str,.str]
abbrev Ca:List Ty:=[.str]
theorem yC{w w':World}(h:Below w.heap.size w w'):Keep (λ_ _=>False) w w':=Keep.oG (M:=λ_=>False) h.size (λb hb _=>h.block b hb) (λ_ _ h=>h)
theorem Tz{w:World}(hG:Glob Tryz.prog w):∃ m:Int,w.cell? ⟨2,0,none⟩=some (.int .i64 m):=
 hG 2 (Tryz.prog.globals[2]'(by decide +kernel)) (by rw[Array.getElem?_eq_getElem]) (.int .i64) (by kernel_rfl)
theorem wP(n:Nat):Pure Tryz.prog 84 yA yB (strings_Cut n):=by
 refine⟨by kernel_rfl,λx y hF w N xs hG _ hx=>?_⟩;obtain⟨hc,hy⟩:=fZ hF;have hc:=of_decide_eq_true hc;obtain rfl:=Option.some.inj hy;obtain⟨u,us,rfl,h1,v,rfl,h2⟩:=hx;simp only[Ty.bG,Ty.isAgg,Bool.false_eq_true,if_false,Ty.Rel,aK,and_true]at h1 h2;subst h1 h2;obtain⟨m,hm⟩:=Tz hG;refine(Tryz.strings_Cut _ _ m w (by simpa [ByteArray.size]using hc) hm).mono ?_;rintro e w' ⟨rfl,k,rfl⟩;refine⟨[_,_,_],rfl,rfl,rfl,rfl,Keep.oG (M:=λ_=>False) (aR _) (λ_ _ _=>rfl) (λ_ _ h=>h),⟨_,_,rfl,?_,_,_,rfl,?_,_,rfl,?_⟩⟩<;>simp[Ty.bG,Ty.isAgg,Ty.Rel]
theorem kU(n:Nat):Pure Tryz.prog 73 lI lJ (strings_IndexByte n):=by
 refine⟨by kernel_rfl,λx y hF w N xs hG _ hx=>?_⟩;obtain rfl:=Option.some.inj hF;obtain⟨u,us,rfl,h1,v,rfl,h2⟩:=hx;simp only[Ty.bG,Ty.isAgg,Bool.false_eq_true,if_false,Ty.Rel,aK,and_true]at h1 h2;subst h1 h2;refine(Tryz.strings_IndexByte _ _ w).mono ?_;rintro e w' ⟨rfl,rfl⟩;exact⟨[_],rfl,rfl,rfl,rfl,Keep.refl _ _,_,rfl,by simp[Ty.bG,Ty.isAgg,Ty.Rel]⟩
theorem zAw:∀ (k u:Nat),u<10 ^ k->0<k->Ow k u=Go.Lib.decDigits u
 |0,u,_,h=>by omega
 |k+1,u,h,_=>by
  rw[Ow,Go.Lib.decDigits];by_cases hu:u<10
  ·rw[if_pos hu,dif_pos hu]
  ·rw[if_neg hu,dif_neg hu];have hk:0<k:=by
    rcases Nat.eq_zero_or_pos k with rfl|hk
    ·simp at h;omega
    ·exact hk
   rw[zAw k (u / 10) (by rw[Nat.pow_succ]at h;omega) hk]
theorem zUj{n:Int}(h0:-9223372036854775808<=n)(h1:n<=9223372036854775807):oN n=Go.Lib.itoa n:=by
 unfold oN Go.Lib.itoa;split
 ·rw[zAw 20 _ (by omega) (by omega)]
 ·rw[zAw 20 _ (by omega) (by omega)]
theorem zUk:Wz=Go.Lib.pow10Tab:=by decide +kernel
theorem zUl {w:World}(hG:Glob Tryz.prog w):Go.Lib.TabIs Tryz.prog w "internal/strconv.uint64pow10" .u64 Go.Lib.pow10Tab:=by
 obtain⟨a,b,h⟩:=hG 1 (Tryz.prog.globals[1]'(by decide +kernel)) (by rw[Array.getElem?_eq_getElem]) (.tab .u64 Wz) (by kernel_rfl);unfold Go.Lib.TabIs World.var?
 have hn:Tryz.prog.globalNamed "internal/strconv.uint64pow10" = some 1:=by kernel_rfl
 rw[hn,Option.bind_some,h,<- zUk]
theorem vH(n:Nat):Pure Tryz.prog 63 wH wI (strconv_Itoa n):=by
 refine⟨by kernel_rfl,λx y hF w N xs hG _ hx=>?_⟩;obtain⟨hc,hy⟩:=fZ hF;obtain rfl:=Option.some.inj hy;simp only[aD,decide_eq_true_eq]at hc;obtain⟨u,rfl,h1⟩:=hx;simp only[Ty.bG,Ty.isAgg,Bool.false_eq_true,if_false,Ty.Rel,aK,and_true]at h1;subst h1;refine(Tryz.strconv_Itoa x hc.1 hc.2 w (zUl hG)).mono ?_;rintro e w' ⟨rfl,k,os,rfl⟩;refine⟨[_],rfl,rfl,rfl,rfl,Keep.oG (M:=λ_=>False) (by simp) (λb hb _=>Go.Sort.heap_grow_old _ _ (by simpa using hb)) (λ_ _ h=>h),_,rfl,by simp[Ty.bG,Ty.isAgg,Ty.Rel,zUj hc.1 hc.2]⟩
theorem zHm{w:World}{N:Nat->Nat->Prop}:∀ {xs:List (List UInt8)}{css:List (List Value)},aV (λx c=>Ty.str.Rel w N x c) xs css->css=xs.map λx=>[Value.string ⟨x.toArray⟩]
 |[],[],_=>rfl
 |x::xs,c::css,h=>by
  obtain⟨h1,h2⟩:=h;simp only[Ty.Rel]at h1;subst h1;rw[List.map_cons,zHm h2]
 |[],_::_,h=>h.elim
 |_::_,[],h=>h.elim
theorem zUm:∀ (xs:List (List UInt8)) (sep:List UInt8),wE xs sep=Go.Lib.join xs sep:=by
 intro xs sep;induction xs with
 |nil=>rfl
 |cons x r ih =>
  cases r with
  |nil=>simp[wE,Go.Lib.join]
  |cons y r=>rw[wE,ih];simp[Go.Lib.join]
theorem Sr(n:Nat):Pure Tryz.prog 67 Ms Ca (strings_Join n):=by
 refine⟨by kernel_rfl,λx y hF w N vs hG _ hx=>?_⟩;obtain⟨xs,sep⟩:=x;obtain⟨hc,hy⟩:=fZ hF;obtain rfl:=Option.some.inj hy;simp only[aD]at hc;have hc1:=bK hc.1;have hc2:=bK hc.2;simp only[room]at hc1 hc2;obtain⟨u,us,rfl,h1,v,rfl,h2⟩:=hx;simp only[Ty.bG,Ty.isAgg,Bool.false_eq_true,if_false,Ty.Rel,aK,and_true]at h1 h2;subst h2;obtain⟨_,rfl,h1⟩:=h1;have out:∀ {e:Ending}{w':World},e=.returned (.string ⟨(wE xs sep).toArray⟩)->Below w.heap.size w w'->∃ us:List Value,e=.returned (nI us)/\w'.os=w.os/\w'.tape=w.tape/\w'.output=w.output/\Keep (λ_ _=>False) w w'/\gZ w' N Ca (wE xs sep) us:=by
  rintro e w' rfl hb;exact⟨[_],rfl,hb.os,hb.tape,hb.output,yC hb,_,rfl,by simp[Ty.bG,Ty.isAgg,Ty.Rel]⟩
 rcases h1 with ⟨rfl,rfl⟩|⟨b,off,cap,css,rfl,hb,_,hl,_,hall,_,hcs⟩|⟨a,cap,rfl,rfl,_⟩
 ·refine(Tryz.strings_Join_none none 0 _ w).mono ?_;rintro e w' ⟨rfl,rfl⟩;exact out rfl (Below.refl _ _)
 ·have zGl:=zHm (w:=w) (N:=N) hall;have hj:Go.Lib.join ((xs.map λx=>(⟨x.toArray⟩:ByteArray)).map (·.data.toList)) sep=wE xs sep:=by
   rw[zUm,List.map_map];congr 1;exact List.map_id xs
  have hcell:∀ (j:Nat) (x:ByteArray),(xs.map λx=>(⟨x.toArray⟩:ByteArray))[j]?=some x->w.cell? ⟨b,off+j,none⟩=some (.string x):=by
   intro j x hjx;refine hcs j (.string x) ?_;rw[zGl];rw[List.getElem?_map]at hjx;have:∀ (l:List (List UInt8)) (j:Nat),((l.map λx=>[Value.string ⟨x.toArray⟩]).flatten)[j]?=(l[j]?).map λx=>Value.string ⟨x.toArray⟩:=by
    intro l;induction l with
    |nil=>intro j;simp
    |cons a l ih=>intro j;cases j with
     |zero=>simp
     |succ j=>simpa using ih j
   rw[this];cases hx:xs[j]? with
   |none=>rw[hx]at hjx;cases hjx
   |some z=>rw[hx]at hjx;simp at hjx;subst hjx;rfl
  have:=Tryz.strings_Join b off cap (xs.map λx=>(⟨x.toArray⟩:ByteArray)) ⟨sep.toArray⟩ w hcell hb (by simpa using hc1) (by simpa using hl) (by rw[show(⟨sep.toArray⟩:ByteArray).data.toList=sep by simp];rw[hj];exact hc2);rw[List.length_map]at this;refine this.mono ?_;rintro e w' ⟨rfl,hb'⟩;refine out ?_ hb';rw[show(⟨sep.toArray⟩:ByteArray).data.toList=sep by simp,hj]
 ·refine(Tryz.strings_Join_none (some a) cap _ w).mono ?_;rintro e w' ⟨rfl,rfl⟩;exact out rfl (Below.refl _ _)
theorem zAx{w:World}(hG:Glob Tryz.prog w):∃ v,w.cell? ⟨4,0,none⟩=some v/\(v=.nilIface\/∃ te pe,v=.iface te pe):=
 hG 4 (Tryz.prog.globals[4]'(by decide +kernel)) (by rw[Array.getElem?_eq_getElem]) .any (by kernel_rfl)
end Go.Dec
namespace Go.Dec
open Go.Proofs Go.RowKit Go.Sort Go.Lib
abbrev Cc:List Ty:=[.str,.str]
abbrev Ce:List Ty:=[.bool]
theorem Jb(n:Nat):Pure Tryz.prog 81 Cc Ce (strings_Contains n):=by
 refine⟨by kernel_rfl,λx y hF w N xs hG _ hx=>?_⟩;obtain⟨hc,hy⟩:=fZ hF;have hc:=of_decide_eq_true hc;obtain rfl:=Option.some.inj hy;obtain⟨u,us,rfl,h1,v,rfl,h2⟩:=hx;simp only[Ty.bG,Ty.isAgg,Bool.false_eq_true,if_false,Ty.Rel,aK,and_true]at h1 h2;subst h1 h2;obtain⟨m,hm⟩:=Tz hG;refine(Tryz.strings_Contains _ _ m w (by simpa [ByteArray.size]using hc) hm).mono ?_;rintro e w' ⟨rfl,rfl⟩;exact⟨[_],rfl,rfl,rfl,rfl,Keep.refl _ _,_,rfl,by simp[Ty.bG,Ty.isAgg,Ty.Rel]⟩
end Go.Dec
namespace Go.Dec
open Go.Proofs Go.RowKit Go.Sort Go.Lib
abbrev Jc:List Ty:=[.str]
abbrev Jd:List Ty:=[.int .i64,.err]
theorem zEe{w:World}(hG:Glob Tryz.prog w):∃ v,w.cell? ⟨5,0,none⟩=some v/\(v=.nilIface\/∃ te pe,v=.iface te pe):=
 hG 5 (Tryz.prog.globals[5]'(by decide +kernel)) (by rw[Array.getElem?_eq_getElem]) .any (by kernel_rfl)
theorem Oy(n:Nat):Pure Tryz.prog 167 Jc Jd (wF n):=by
 refine⟨by kernel_rfl,λx y hF w N vs hG _ hx=>?_⟩;obtain⟨hc,hy⟩:=fZ hF;have hc1:=bK hc;obtain⟨u,rfl,h1⟩:=hx;simp only[Ty.bG,Ty.isAgg,Bool.false_eq_true,if_false,Ty.Rel,aK,and_true]at h1;subst h1;obtain rfl:=Option.some.inj hy;have hs:(⟨x.toArray⟩:ByteArray).data.toList=x:=by simp
 have hz:(⟨x.toArray⟩:ByteArray).size=x.length:=by simp[ByteArray.size]
 unfold Yk;cases ha:Go.Lib.atoiAll x with
 |ok v =>
  refine(Tryz.strconv_Atoi_ok ⟨x.toArray⟩ (by rw[hz];omega) v (by rw[hs];exact ha) w).mono ?_;rintro e w' ⟨rfl,rfl|⟨t,rfl⟩⟩
  ·exact⟨[_,_],rfl,rfl,rfl,rfl,Keep.refl _ _,_,_,rfl,by simp[Ty.bG,Ty.isAgg,Ty.Rel],_,rfl,by simp[Ty.bG,Ty.isAgg,Ty.Rel]⟩
  ·exact⟨[_,_],rfl,rfl,rfl,rfl,Keep.oG (M:=λ_=>False) (by rw[Go.Lib.bytesWorld_size];omega) (λb hb _=>Go.Lib.bytesWorld_at_old _ _ _ b hb) (λ_ _ h=>h),_,_,rfl,by simp[Ty.bG,Ty.isAgg,Ty.Rel],_,rfl,by simp[Ty.bG,Ty.isAgg,Ty.Rel]⟩
 | «syntax» =>
  obtain⟨ev,hv,hev⟩:=zAx hG;refine(Tryz.strconv_Atoi_syntax ⟨x.toArray⟩ (by rw[hz];omega) (by rw[hs];exact ha) ev w hv hev).mono ?_;rintro e w' ⟨N',rfl,_,_,hb⟩;exact⟨[_,_],rfl,hb.os,hb.tape,hb.output,yC hb,_,_,rfl,by simp[Ty.bG,Ty.isAgg,Ty.Rel],_,rfl,by simp[Ty.bG,Ty.isAgg,Ty.Rel]⟩
 |range =>
  obtain⟨ev,hv,hev⟩:=zEe hG;refine(Tryz.strconv_Atoi_range ⟨x.toArray⟩ (by rw[hz];omega) (by rw[hs];exact ha) ev w hv hev).mono ?_;rintro e w' ⟨N',rfl,_,_,hb⟩;exact⟨[_,_],rfl,hb.os,hb.tape,hb.output,yC hb,_,_,rfl,by simp[Ty.bG,Ty.isAgg,Ty.Rel],_,rfl,by simp[Ty.bG,Ty.isAgg,Ty.Rel]⟩
end Go.Dec
