/- Part of a proof over this seat: a library of my own, and what it says of this seat. No statement is proved here. -/
import Derived.Test.YthhbdkdofhhoeaaGreatDoorPartBC
import Derived.Test.YthhbdkdofhhoeaaGreatDoorPartAN
import Derived.Test.YthhbdkdofhhoeaaGreatDoorProg
import Derived.Test.YthhbdkdofhhoeaaGreatDoorPartAL
import Derived.WalkKit
import Derived.WalkSmall
import Derived.KernelRfl
import Derived.Deep.RegionHeld
import Derived.Deep.DrawnRows
namespace Go.Dec
theorem Wz(n:Nat):∀ (v:Value) (x) (y),cO n x=some y->iJ n (x.1,x.2.1,x.2.2.1,x.2.2.2.1,x.2.2.2.2.1,x.2.2.2.2.2.1,x.2.2.2.2.2.2.1,x.2.2.2.2.2.2.2.1,x.2.2.2.2.2.2.2.2.1,x.2.2.2.2.2.2.2.2.2.1,v,x.2.2.2.2.2.2.2.2.2.2)=some (y.1,y.2.1,y.2.2.1,y.2.2.2.1,v,y.2.2.2.2):=by
 intro v x y h;unfold cO iJ at h;unfold iJ;simp only[chk]at h ⊢;split at h
 ·rename_i y' hy;split at hy
  ·rename_i hc;simp only[aA]at hy h;subst hy h;simp only[hc]
  ·cases hy
 ·cases h
theorem Us(n:Nat):∀ (v:Value) (x) (y),aV n x=some y->sQ n (x.1,x.2.1,x.2.2.1,x.2.2.2.1,x.2.2.2.2.1,v,x.2.2.2.2.2)=some (y.1,y.2.1,y.2.2.1,y.2.2.2.1,v,y.2.2.2.2):=by
 intro v x y h;unfold aV sQ at h;unfold sQ;simp only[aA]at h;subst h;rfl
theorem Sv(n:Nat):∀ (v:Value) (x) (y),dH n x=some y->nH n (x.1,x.2.1,x.2.2.1,v,x.2.2.2)=some (y.1,y.2.1,y.2.2.1,y.2.2.2.1,v,y.2.2.2.2):=by
 intro v x y h;unfold dH nH at h;unfold nH;simp only[chk,br,ob]at h ⊢
 repeat' (split at h)
 all_goals first|(cases h;done)|(rename_i hh;simp_all;done)|skip
 all_goals (repeat' (split at *))
 all_goals simp_all
 all_goals (subst_vars;exact⟨rfl,rfl,rfl,rfl,rfl⟩)
theorem Ut(n:Nat)(v:Value):∀ (m:Nat) (a b c:Int) (s:List UInt8) (p q:Int) (z:Er2) (y),
 fix (gZ n) m (a,b,c,s,p,q,Value.nilFunc,z)=some y ->
 fix (gZ n) m (a,b,c,s,p,q,v,z)=some (y.1,y.2.1,y.2.2.1,y.2.2.2.1,v,y.2.2.2.2.2)
 |0,_,_,_,_,_,_,_,_,h=>by simp[fix]at h
 |m+1,a,b,c,s,p,q,z,y,h=>by
  rw[bI (by omega),Nat.add_sub_cancel]at h ⊢;unfold gZ iJ at h ⊢;simp only[br,chk]at h ⊢;split at h
  ·rename_i hc;rw[hc];simp only;split at h
   ·rename_i hc2;rw[hc2];simp only;split at h
    ·rename_i hc3;rw[hc3];simp only;cases hr:Nat.ble ((z.2.2.2.1.length+([(a,([0,0,0,0],(z.2.2.1.getD (0+c.toNat) (Ty.dflt (.int .i64)),(b,(0,(0,(0,())))))))]:List NdT).length)*80) room with
     |true =>
      simp only[hr,aK]at h ⊢;exact Ut n v m _ _ _ _ _ _ _ _ h
     |false=>simp only[hr]at h;exact nomatch (show none=some y from h)
    ·cases h
   ·cases h
  ·rename_i hc;rw[hc];simp only[aA]at h ⊢;subst h;rfl
theorem Sw(n:Nat):∀ (v:Value) (x) (y),fJ n x=some y->nI n (x.1,x.2.1,x.2.2.1,x.2.2.2.1,v,x.2.2.2.2)=some (y.1,y.2.1,y.2.2.1,y.2.2.2.1,v,y.2.2.2.2):=by
 intro v x y h;unfold fJ nI at h;unfold nI;simp only[chk]at h ⊢;split at h
 ·rename_i y' hy;split at hy
  ·rename_i hc;rw[hc];simp only;split at hy
   ·rename_i hc2;rw[hc2];simp only;simp only[aA]at h;subst h;exact Ut n v n _ _ _ _ _ _ _ _ hy
   ·cases hy
  ·cases hy
 ·cases h
end Go.Dec
namespace Go.Dec
open Go.Proofs Go.RowKit
set_option maxRecDepth 10000 in
theorem yJd(w:World)(rb b n cap:Nat)(h:w.cell? ⟨rb,4,none⟩=some (.slice (some ⟨b,0,none⟩) n cap))(hn:1<=n)(hm:n<=maxLen):Calls Tryz.prog 126 #[.pointer (some ⟨rb,0,none⟩)] w λe w'=>e=.returned (.pointer (some ⟨b,(n-1)*4,none⟩))/\∃ d,w'={ w with drawn:=d }:=by
 go_enter Tryz.func126,Tryz.ntmps126
 have hm':n<=9223372036854775807:=by simp only[maxLen]at hm;omega
 have hw:IntKind.wrap .i64 ((n:Int)-1)=((n-1:Nat):Int):=by rw[show((n:Int)-1)=((n-1:Nat):Int)by omega];exact IntWalk.i64_in _ ⟨by omega,by omega⟩
 have h1:(0:Int)<=((n-1:Nat):Int):=by omega
 have h2:((n-1:Nat):Int)<(n:Int):=by omega
 go_wp2
 go_region_held (λw'=>w'.cell? ⟨rb,4,none⟩=some (.slice (some ⟨b,0,none⟩) n cap)) (go_keep) (fail)
 go_wp2
 refine⟨rfl,_,?_,rfl,_,rfl⟩;simp[results,Tryz.results126]
 done
theorem zLv:yOy Tryz.prog 126 4:=⟨by kernel_rfl,yJd⟩
end Go.Dec
