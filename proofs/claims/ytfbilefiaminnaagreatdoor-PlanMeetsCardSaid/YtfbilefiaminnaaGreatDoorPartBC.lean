/- Part of a proof over this seat: a library of my own, and what it says of this seat. No statement is proved here. -/
import Derived.Test.YtfbilefiaminnaaGreatDoorPartAL
import Derived.Test.YtfbilefiaminnaaGreatDoorPartBB
import Derived.KernelRfl
import Derived.Test.YtfbilefiaminnaaGreatDoorPartAO
namespace Go.Dec
open Go.Proofs Go.RowKit Go.Sort Go.Lib
abbrev zId:List Ty:=[.str,.str]
abbrev zIe:List Ty:=[.str,.str,.bool]
abbrev kX:List Ty:=[.str,.int .u8]
abbrev kY:List Ty:=[.int .i64]
theorem Uk{w w':World}(h:Below w.heap.size w w'):Keep (λ_ _=>False) w w':=Keep.mP (M:=λ_=>False) h.size (λb hb _=>h.block b hb) (λ_ _ h=>h)
theorem yEw{w:World}(hG:Glob Tryz.prog w):∃ m:Int,w.cell? ⟨0,0,none⟩=some (.int .i64 m):=
 hG 0 (Tryz.prog.globals[0]'(by decide +kernel)) (by rw[Array.getElem?_eq_getElem]) (.int .i64) (by kernel_rfl)
theorem zNp(n:Nat):Pure Tryz.prog 212 zId zIe (strings_Cut n):=by
 refine⟨by kernel_rfl,λx y hF w N xs hG _ hx=>?_⟩;obtain⟨hc,hy⟩:=iM hF;have hc:=of_decide_eq_true hc;obtain rfl:=Option.some.inj hy;obtain⟨u,us,rfl,h1,v,rfl,h2⟩:=hx;simp only[Ty.bP,Ty.isAgg,Bool.false_eq_true,if_false,Ty.Rel,aJ,and_true]at h1 h2;subst h1 h2;obtain⟨m,hm⟩:=yEw hG;refine(Tryz.strings_Cut _ _ m w (by simpa [ByteArray.size]using hc) hm).mono ?_;rintro e w' ⟨rfl,k,rfl⟩;refine⟨[_,_,_],rfl,rfl,rfl,rfl,Keep.mP (M:=λ_=>False) (aP _) (λ_ _ _=>rfl) (λ_ _ h=>h),⟨_,_,rfl,?_,_,_,rfl,?_,_,rfl,?_⟩⟩<;>simp[Ty.bP,Ty.isAgg,Ty.Rel]
theorem jY(n:Nat):Pure Tryz.prog 81 kX kY (strings_IndexByte n):=by
 refine⟨by kernel_rfl,λx y hF w N xs hG _ hx=>?_⟩;obtain rfl:=Option.some.inj hF;obtain⟨u,us,rfl,h1,v,rfl,h2⟩:=hx;simp only[Ty.bP,Ty.isAgg,Bool.false_eq_true,if_false,Ty.Rel,aJ,and_true]at h1 h2;subst h1 h2;refine(Tryz.strings_IndexByte _ _ w).mono ?_;rintro e w' ⟨rfl,rfl⟩;exact⟨[_],rfl,rfl,rfl,rfl,Keep.refl _ _,_,rfl,by simp[Ty.bP,Ty.isAgg,Ty.Rel]⟩
end Go.Dec
namespace Go.Dec
open Go.Proofs Go.RowKit Go.Sort Go.Lib
abbrev zFn:List Ty:=[.str]
abbrev zFo:List Ty:=[.int .i64,.err]
theorem zBw{w:World}(hG:Glob Tryz.prog w):∃ v,w.cell? ⟨1,0,none⟩=some v/\(v=.nilIface\/∃ te pe,v=.iface te pe):=
 hG 1 (Tryz.prog.globals[1]'(by decide +kernel)) (by rw[Array.getElem?_eq_getElem]) .any (by kernel_rfl)
theorem zQh:∀ (l:List UInt8) (acc:Nat),l.all isDigit=true->Go.Lib.decFrom acc l=some (l.foldl (λa c=>a*10+(c.toNat-48)) acc)
 |[],acc,_=>rfl
 |c::l,acc,h=>by
  simp only[List.all_cons,aD]at h;have hd:Go.Lib.digitVal c=some (c.toNat-48):=by
   unfold Go.Lib.digitVal;rw[if_pos];simpa [isDigit]using h.1
  simp only[Go.Lib.decFrom,hd,List.foldl_cons];exact zQh l _ h.2
theorem yWy{c:UInt8}{l:List UInt8}(h:(c::l).all isDigit=true):Go.Lib.atoi (c::l)=some ((yJn (c::l):Nat):Int):=by
 have hc:isDigit c=true:=by simp only[List.all_cons,aD]at h;exact h.1
 have hc2:48<=c.toNat/\c.toNat<=57:=by simpa [isDigit]using hc
 have h1:(c==45)=false:=by rw[beq_eq_false_iff_ne];intro e;subst e;revert hc2;decide
 have h2:(c==43)=false:=by rw[beq_eq_false_iff_ne];intro e;subst e;revert hc2;decide
 simp only[Go.Lib.atoi,h1,h2,Bool.false_eq_true,if_false,Go.Lib.decNat,List.isEmpty_cons,zQh _ _ h,Option.map_some];rfl
theorem zKy(n:Nat):Pure Tryz.prog 205 zFn zFo (strconv_Atoi n):=by
 refine⟨by kernel_rfl,λx y hF w N vs hG _ hx=>?_⟩;obtain⟨hc,hy⟩:=iM hF;simp only[aD]at hc;have hc1:=bR hc.1;obtain⟨u,rfl,h1⟩:=hx;simp only[Ty.bP,Ty.isAgg,Bool.false_eq_true,if_false,Ty.Rel,aJ,and_true]at h1;subst h1;cases x with
 |nil =>
  obtain rfl:=Option.some.inj hy;obtain⟨ev,hv,hev⟩:=zBw hG;refine(Tryz.strconv_Atoi_err ⟨#[]⟩ (by decide) rfl ev w hv hev).mono ?_;rintro e w' ⟨N',rfl,_,_,hb⟩;exact⟨[_,_],rfl,hb.os,hb.tape,hb.output,Uk hb,_,_,rfl,by simp[Ty.bP,Ty.isAgg,Ty.Rel],_,rfl,by simp[Ty.bP,Ty.isAgg,Ty.Rel]⟩
 |cons c l =>
  obtain rfl:=Option.some.inj hy;refine(Tryz.strconv_Atoi ⟨(c::l).toArray⟩ _ (by simpa [ByteArray.size]using hc1) (by simpa using yWy hc.2) w).mono ?_;rintro e w' ⟨rfl,t,rfl⟩;refine⟨[_,_],rfl,rfl,rfl,rfl,Keep.mP (M:=λ_=>False) (by rw[Go.Lib.bytesWorld_size];omega) (λb hb _=>Go.Lib.bytesWorld_at_old _ _ _ b hb) (λ_ _ h=>h),_,_,rfl,by simp[Ty.bP,Ty.isAgg,Ty.Rel],_,rfl,by simp[Ty.bP,Ty.isAgg,Ty.Rel]⟩
end Go.Dec
namespace Go.Dec
open Go.Proofs Go.RowKit Go.Sort Go.Lib
abbrev Qx:List Ty:=[.str,.int .i64,.int .i64]
abbrev Qy:List Ty:=[.int .u64,.err]
theorem zXe{w:World}(hG:Glob Tryz.prog w):∃ v,w.cell? ⟨2,0,none⟩=some v/\(v=.nilIface\/∃ te pe,v=.iface te pe):=
 hG 2 (Tryz.prog.globals[2]'(by decide +kernel)) (by rw[Array.getElem?_eq_getElem]) .any (by kernel_rfl)
theorem zAb(n:Nat):Pure Tryz.prog 145 Qx Qy (tX n):=by
 refine⟨by kernel_rfl,λx y hF w N vs hG _ hx=>?_⟩;obtain⟨x,b,k⟩:=x;obtain⟨hc,hy⟩:=iM hF;simp only[aD,beq_iff_eq]at hc;obtain⟨rfl,rfl,hc⟩:=hc;have hc1:=bR hc;obtain⟨u,us,rfl,h1,u2,us2,rfl,h2,u3,rfl,h3⟩:=hx;simp only[Ty.bP,Ty.isAgg,Bool.false_eq_true,if_false,Ty.Rel,aJ,and_true]at h1 h2 h3;subst h1 h2 h3;obtain rfl:=Option.some.inj hy;have hs:(⟨x.toArray⟩:ByteArray).data.toList=x:=by simp
 have hz:(⟨x.toArray⟩:ByteArray).size=x.length:=by simp[ByteArray.size]
 unfold yNj;cases ha:Go.Lib.parseUintB 64 x with
 |ok v =>
  refine(Tryz.strconv_ParseUint_10_at64_ok ⟨x.toArray⟩ (by rw[hz];omega) v (by rw[hs];exact ha) w).mono ?_;rintro e w' ⟨rfl,rfl|rfl⟩
  ·exact⟨[_,_],rfl,rfl,rfl,rfl,Keep.refl _ _,_,_,rfl,by simp[Ty.bP,Ty.isAgg,Ty.Rel],_,rfl,by simp[Ty.bP,Ty.isAgg,Ty.Rel]⟩
  ·exact⟨[_,_],rfl,rfl,rfl,rfl,Keep.mP (M:=λ_=>False) (by rw[Go.Lib.bytesWorld_size];omega) (λb hb _=>Go.Lib.bytesWorld_at_old _ _ _ b hb) (λ_ _ h=>h),_,_,rfl,by simp[Ty.bP,Ty.isAgg,Ty.Rel],_,rfl,by simp[Ty.bP,Ty.isAgg,Ty.Rel]⟩
 |range =>
  obtain⟨ev,hv,hev⟩:=zXe hG;refine(Tryz.strconv_ParseUint_10_at64_range ⟨x.toArray⟩ (by rw[hz];omega) (by rw[hs];exact ha) ev w hv hev).mono ?_;rintro e w' ⟨N',rfl,_,_,hb⟩;exact⟨[_,_],rfl,hb.os,hb.tape,hb.output,Uk hb,_,_,rfl,by simp[Ty.bP,Ty.isAgg,Ty.Rel],_,rfl,by simp[Ty.bP,Ty.isAgg,Ty.Rel]⟩
 |_ =>
  obtain⟨ev,hv,hev⟩:=zBw hG;refine(Tryz.strconv_ParseUint_10_at64_syntax ⟨x.toArray⟩ (by rw[hz];omega) (by rw[hs];exact ha) ev w hv hev).mono ?_;rintro e w' ⟨N',rfl,_,_,hb⟩;exact⟨[_,_],rfl,hb.os,hb.tape,hb.output,Uk hb,_,_,rfl,by simp[Ty.bP,Ty.isAgg,Ty.Rel],_,rfl,by simp[Ty.bP,Ty.isAgg,Ty.Rel]⟩
end Go.Dec
