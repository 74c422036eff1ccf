/- Part of a proof over this seat: a library of my own, and what it says of this seat. No statement is proved here. -/
import Derived.Test.YthhbdkdofhhoeaaGreatDoorProg
import Derived.Test.YthhbdkdofhhoeaaGreatDoorPartAQ
import Derived.Test.YthhbdkdofhhoeaaGreatDoorPartAP
import Derived.KernelRfl
namespace Go.Dec
open Go.Proofs Go.RowKit Go.Sort Go.Lib
abbrev Ej:List Ty:=[.str,.str]
abbrev El:List Ty:=[.str,.str,.bool]
abbrev nY:List Ty:=[.str,.int .u8]
abbrev nZ:List Ty:=[.int .i64]
abbrev Bp:List Ty:=[.int .i64]
abbrev Bq:List Ty:=[.str]
abbrev Yh:List Ty:=[.slice .str,.str]
abbrev Kw:List Ty:=[.str]
theorem Em{w w':World}(h:Below w.heap.size w w'):Keep (λ_ _=>False) w w':=Keep.rU (M:=λ_=>False) h.size (λb hb _=>h.block b hb) (λ_ _ h=>h)
theorem zFo{w:World}(hG:Glob Tryz.prog w):∃ m:Int,w.cell? ⟨2,0,none⟩=some (.int .i64 m):=
 hG 2 (Tryz.prog.globals[2]'(by decide +kernel)) (by rw[Array.getElem?_eq_getElem]) (.int .i64) (by kernel_rfl)
theorem Ch(n:Nat):Pure Tryz.prog 84 Ej El (strings_Cut n):=by
 refine⟨by kernel_rfl,λx y hF w N xs hG _ hx=>?_⟩;obtain⟨hc,hy⟩:=iV hF;have hc:=of_decide_eq_true hc;obtain rfl:=Option.some.inj hy;obtain⟨u,us,rfl,h1,v,rfl,h2⟩:=hx;simp only[Ty.gJ,Ty.isAgg,Bool.false_eq_true,if_false,Ty.Rel,aQ,and_true]at h1 h2;subst h1 h2;obtain⟨m,hm⟩:=zFo hG;refine(Tryz.strings_Cut _ _ m w (by simpa [ByteArray.size]using hc) hm).mono ?_;rintro e w' ⟨rfl,k,rfl⟩;refine⟨[_,_,_],rfl,rfl,rfl,rfl,Keep.rU (M:=λ_=>False) (bA _) (λ_ _ _=>rfl) (λ_ _ h=>h),⟨_,_,rfl,?_,_,_,rfl,?_,_,rfl,?_⟩⟩<;>simp[Ty.gJ,Ty.isAgg,Ty.Rel]
theorem nL(n:Nat):Pure Tryz.prog 73 nY nZ (strings_IndexByte n):=by
 refine⟨by kernel_rfl,λx y hF w N xs hG _ hx=>?_⟩;obtain rfl:=Option.some.inj hF;obtain⟨u,us,rfl,h1,v,rfl,h2⟩:=hx;simp only[Ty.gJ,Ty.isAgg,Bool.false_eq_true,if_false,Ty.Rel,aQ,and_true]at h1 h2;subst h1 h2;refine(Tryz.strings_IndexByte _ _ w).mono ?_;rintro e w' ⟨rfl,rfl⟩;exact⟨[_],rfl,rfl,rfl,rfl,Keep.refl _ _,_,rfl,by simp[Ty.gJ,Ty.isAgg,Ty.Rel]⟩
theorem zNv:∀ (k u:Nat),u<10 ^ k->0<k->Cg k u=Go.Lib.decDigits u
 |0,u,_,h=>by omega
 |k+1,u,h,_=>by
  rw[Cg,Go.Lib.decDigits];by_cases hu:u<10
  ·rw[if_pos hu,dif_pos hu]
  ·rw[if_neg hu,dif_neg hu];have hk:0<k:=by
    rcases Nat.eq_zero_or_pos k with rfl|hk
    ·simp at h;omega
    ·exact hk
   rw[zNv k (u / 10) (by rw[Nat.pow_succ]at h;omega) hk]
theorem yMg{n:Int}(h0:-9223372036854775808<=n)(h1:n<=9223372036854775807):bM n=Go.Lib.itoa n:=by
 unfold bM Go.Lib.itoa;split
 ·rw[zNv 20 _ (by omega) (by omega)]
 ·rw[zNv 20 _ (by omega) (by omega)]
theorem yMh:zIz=Go.Lib.pow10Tab:=by decide +kernel
theorem yMi {w:World}(hG:Glob Tryz.prog w):Go.Lib.TabIs Tryz.prog w "internal/strconv.uint64pow10" .u64 Go.Lib.pow10Tab:=by
 obtain⟨a,b,h⟩:=hG 1 (Tryz.prog.globals[1]'(by decide +kernel)) (by rw[Array.getElem?_eq_getElem]) (.tab .u64 zIz) (by kernel_rfl);unfold Go.Lib.TabIs World.var?
 have hn:Tryz.prog.globalNamed "internal/strconv.uint64pow10" = some 1:=by kernel_rfl
 rw[hn,Option.bind_some,h,<- yMh]
theorem Aa(n:Nat):Pure Tryz.prog 63 Bp Bq (strconv_Itoa n):=by
 refine⟨by kernel_rfl,λx y hF w N xs hG _ hx=>?_⟩;obtain⟨hc,hy⟩:=iV hF;obtain rfl:=Option.some.inj hy;simp only[aH,decide_eq_true_eq]at hc;obtain⟨u,rfl,h1⟩:=hx;simp only[Ty.gJ,Ty.isAgg,Bool.false_eq_true,if_false,Ty.Rel,aQ,and_true]at h1;subst h1;refine(Tryz.strconv_Itoa x hc.1 hc.2 w (yMi hG)).mono ?_;rintro e w' ⟨rfl,k,os,rfl⟩;refine⟨[_],rfl,rfl,rfl,rfl,Keep.rU (M:=λ_=>False) (by simp) (λb hb _=>Go.Sort.heap_grow_old _ _ (by simpa using hb)) (λ_ _ h=>h),_,rfl,by simp[Ty.gJ,Ty.isAgg,Ty.Rel,yMg hc.1 hc.2]⟩
theorem zVv{w:World}{N:Nat->Nat->Prop}:∀ {xs:List (List UInt8)}{css:List (List Value)},bD (λx c=>Ty.str.Rel w N x c) xs css->css=xs.map λx=>[Value.string ⟨x.toArray⟩]
 |[],[],_=>rfl
 |x::xs,c::css,h=>by
  obtain⟨h1,h2⟩:=h;simp only[Ty.Rel]at h1;subst h1;rw[List.map_cons,zVv h2]
 |[],_::_,h=>h.elim
 |_::_,[],h=>h.elim
theorem yMj:∀ (xs:List (List UInt8)) (sep:List UInt8),Bl xs sep=Go.Lib.join xs sep:=by
 intro xs sep;induction xs with
 |nil=>rfl
 |cons x r ih =>
  cases r with
  |nil=>simp[Bl,Go.Lib.join]
  |cons y r=>rw[Bl,ih];simp[Go.Lib.join]
theorem zEn(n:Nat):Pure Tryz.prog 67 Yh Kw (strings_Join n):=by
 refine⟨by kernel_rfl,λx y hF w N vs hG _ hx=>?_⟩;obtain⟨xs,sep⟩:=x;obtain⟨hc,hy⟩:=iV hF;obtain rfl:=Option.some.inj hy;simp only[aH]at hc;have hc1:=cZ hc.1;have hc2:=cZ hc.2;simp only[room]at hc1 hc2;obtain⟨u,us,rfl,h1,v,rfl,h2⟩:=hx;simp only[Ty.gJ,Ty.isAgg,Bool.false_eq_true,if_false,Ty.Rel,aQ,and_true]at h1 h2;subst h2;obtain⟨_,rfl,h1⟩:=h1;have out:∀ {e:Ending}{w':World},e=.returned (.string ⟨(Bl xs sep).toArray⟩)->Below w.heap.size w w'->∃ us:List Value,e=.returned (qM us)/\w'.os=w.os/\w'.tape=w.tape/\w'.output=w.output/\Keep (λ_ _=>False) w w'/\jM w' N Kw (Bl xs sep) us:=by
  rintro e w' rfl hb;exact⟨[_],rfl,hb.os,hb.tape,hb.output,Em hb,_,rfl,by simp[Ty.gJ,Ty.isAgg,Ty.Rel]⟩
 rcases h1 with ⟨rfl,rfl⟩|⟨b,off,cap,css,rfl,hb,_,hl,_,hall,_,hcs⟩|⟨a,cap,rfl,rfl,_⟩
 ·refine(Tryz.strings_Join_none none 0 _ w).mono ?_;rintro e w' ⟨rfl,rfl⟩;exact out rfl (Below.refl _ _)
 ·have zUt:=zVv (w:=w) (N:=N) hall;have hj:Go.Lib.join ((xs.map λx=>(⟨x.toArray⟩:ByteArray)).map (·.data.toList)) sep=Bl xs sep:=by
   rw[yMj,List.map_map];congr 1;exact List.map_id xs
  have hcell:∀ (j:Nat) (x:ByteArray),(xs.map λx=>(⟨x.toArray⟩:ByteArray))[j]?=some x->w.cell? ⟨b,off+j,none⟩=some (.string x):=by
   intro j x hjx;refine hcs j (.string x) ?_;rw[zUt];rw[List.getElem?_map]at hjx;have:∀ (l:List (List UInt8)) (j:Nat),((l.map λx=>[Value.string ⟨x.toArray⟩]).flatten)[j]?=(l[j]?).map λx=>Value.string ⟨x.toArray⟩:=by
    intro l;induction l with
    |nil=>intro j;simp
    |cons a l ih=>intro j;cases j with
     |zero=>simp
     |succ j=>simpa using ih j
   rw[this];cases hx:xs[j]? with
   |none=>rw[hx]at hjx;cases hjx
   |some z=>rw[hx]at hjx;simp at hjx;subst hjx;rfl
  have:=Tryz.strings_Join b off cap (xs.map λx=>(⟨x.toArray⟩:ByteArray)) ⟨sep.toArray⟩ w hcell hb (by simpa using hc1) (by simpa using hl) (by rw[show(⟨sep.toArray⟩:ByteArray).data.toList=sep by simp];rw[hj];exact hc2);rw[List.length_map]at this;refine this.mono ?_;rintro e w' ⟨rfl,hb'⟩;refine out ?_ hb';rw[show(⟨sep.toArray⟩:ByteArray).data.toList=sep by simp,hj]
 ·refine(Tryz.strings_Join_none (some a) cap _ w).mono ?_;rintro e w' ⟨rfl,rfl⟩;exact out rfl (Below.refl _ _)
theorem zNw{w:World}(hG:Glob Tryz.prog w):∃ v,w.cell? ⟨4,0,none⟩=some v/\(v=.nilIface\/∃ te pe,v=.iface te pe):=
 hG 4 (Tryz.prog.globals[4]'(by decide +kernel)) (by rw[Array.getElem?_eq_getElem]) .any (by kernel_rfl)
end Go.Dec
namespace Go.Dec
open Go.Proofs Go.RowKit Go.Sort Go.Lib
abbrev Lh:List Ty:=[.str,.str]
abbrev Li:List Ty:=[.bool]
theorem Uc(n:Nat):Pure Tryz.prog 81 Lh Li (strings_Contains n):=by
 refine⟨by kernel_rfl,λx y hF w N xs hG _ hx=>?_⟩;obtain⟨hc,hy⟩:=iV hF;have hc:=of_decide_eq_true hc;obtain rfl:=Option.some.inj hy;obtain⟨u,us,rfl,h1,v,rfl,h2⟩:=hx;simp only[Ty.gJ,Ty.isAgg,Bool.false_eq_true,if_false,Ty.Rel,aQ,and_true]at h1 h2;subst h1 h2;obtain⟨m,hm⟩:=zFo hG;refine(Tryz.strings_Contains _ _ m w (by simpa [ByteArray.size]using hc) hm).mono ?_;rintro e w' ⟨rfl,rfl⟩;exact⟨[_],rfl,rfl,rfl,rfl,Keep.refl _ _,_,rfl,by simp[Ty.gJ,Ty.isAgg,Ty.Rel]⟩
end Go.Dec
namespace Go.Dec
open Go.Proofs Go.RowKit Go.Sort Go.Lib
abbrev Ud:List Ty:=[.str]
abbrev Ue:List Ty:=[.int .i64,.err]
theorem zRr{w:World}(hG:Glob Tryz.prog w):∃ v,w.cell? ⟨5,0,none⟩=some v/\(v=.nilIface\/∃ te pe,v=.iface te pe):=
 hG 5 (Tryz.prog.globals[5]'(by decide +kernel)) (by rw[Array.getElem?_eq_getElem]) .any (by kernel_rfl)
theorem zAg(n:Nat):Pure Tryz.prog 167 Ud Ue (Bn n):=by
 refine⟨by kernel_rfl,λx y hF w N vs hG _ hx=>?_⟩;obtain⟨hc,hy⟩:=iV hF;have hc1:=cZ hc;obtain⟨u,rfl,h1⟩:=hx;simp only[Ty.gJ,Ty.isAgg,Bool.false_eq_true,if_false,Ty.Rel,aQ,and_true]at h1;subst h1;obtain rfl:=Option.some.inj hy;have hs:(⟨x.toArray⟩:ByteArray).data.toList=x:=by simp
 have hz:(⟨x.toArray⟩:ByteArray).size=x.length:=by simp[ByteArray.size]
 unfold zKf;cases ha:Go.Lib.atoiAll x with
 |ok v =>
  refine(Tryz.strconv_Atoi_ok ⟨x.toArray⟩ (by rw[hz];omega) v (by rw[hs];exact ha) w).mono ?_;rintro e w' ⟨rfl,rfl|⟨t,rfl⟩⟩
  ·exact⟨[_,_],rfl,rfl,rfl,rfl,Keep.refl _ _,_,_,rfl,by simp[Ty.gJ,Ty.isAgg,Ty.Rel],_,rfl,by simp[Ty.gJ,Ty.isAgg,Ty.Rel]⟩
  ·exact⟨[_,_],rfl,rfl,rfl,rfl,Keep.rU (M:=λ_=>False) (by rw[Go.Lib.bytesWorld_size];omega) (λb hb _=>Go.Lib.bytesWorld_at_old _ _ _ b hb) (λ_ _ h=>h),_,_,rfl,by simp[Ty.gJ,Ty.isAgg,Ty.Rel],_,rfl,by simp[Ty.gJ,Ty.isAgg,Ty.Rel]⟩
 | «syntax» =>
  obtain⟨ev,hv,hev⟩:=zNw hG;refine(Tryz.strconv_Atoi_syntax ⟨x.toArray⟩ (by rw[hz];omega) (by rw[hs];exact ha) ev w hv hev).mono ?_;rintro e w' ⟨N',rfl,_,_,hb⟩;exact⟨[_,_],rfl,hb.os,hb.tape,hb.output,Em hb,_,_,rfl,by simp[Ty.gJ,Ty.isAgg,Ty.Rel],_,rfl,by simp[Ty.gJ,Ty.isAgg,Ty.Rel]⟩
 |range =>
  obtain⟨ev,hv,hev⟩:=zRr hG;refine(Tryz.strconv_Atoi_range ⟨x.toArray⟩ (by rw[hz];omega) (by rw[hs];exact ha) ev w hv hev).mono ?_;rintro e w' ⟨N',rfl,_,_,hb⟩;exact⟨[_,_],rfl,hb.os,hb.tape,hb.output,Em hb,_,_,rfl,by simp[Ty.gJ,Ty.isAgg,Ty.Rel],_,rfl,by simp[Ty.gJ,Ty.isAgg,Ty.Rel]⟩
end Go.Dec
