/- Part of a proof over this seat: a library of my own, and what it says of this seat. No statement is proved here. -/
import Derived.Test.YthhbdkdofhhoeaaGreatDoorPartBS
import Derived.Test.YthhbdkdofhhoeaaGreatDoorPartBT
namespace Go.Dec
theorem zZj:Br 200000 ()=some true:=by decide +kernel
theorem zNq{p:Nat->Bool}(he:fK p=false):∃ x,Ti (kX p)=.inl (.bytes x)/\∀ j,j<256->x j=p j:=by
 have key:∀ (w:List UInt8) (x:Nat->Bool),HE w->(∀ rows:List UInt8->Nat->jA (List (List Pt)),pQ rows w 0=.ok (.bytes x) [] 0)->Ti w=.inl (.bytes x):=by
  intro w x hw ha;have hc:=(hw []).1;rw[List.append_nil]at hc;cases w with
  |nil=>cases hc
  |cons c w0 =>
   have he:Ti (c::w0)=match nP 11 true (c::w0) 0 with
    |.er e k=>.inr (e,(c::w0).length-k)
    |.ok rs r _ =>
     match r with
     |[]=>bif decide ((eX rs).sz>120)then .inr (2,0)else .inl (eX rs)
     |_=>.inr (41,(c::w0).length-r.length):=rfl
   have hi:rR (nP 10 false) ((c::w0).length+1) (c::w0) 0 []=.ok [.bytes x] [] 0:=by
    rw[show(c::w0).length+1=(w0.length+1)+1 from rfl];unfold rR;rw[hc];simp only[cond_false];unfold kW;rw[ha];rfl
   have hr:nP 11 true (c::w0) 0=.ok [[.bytes x]] [] 0:=by
    show wP (nP 10 false) true ((c::w0).length+1) (c::w0) 0 []=_;unfold wP;rw[hi];rfl
   rw[he,hr];rfl
 rcases zNn he with ⟨c,h,h2⟩|⟨h,h2⟩|⟨h,h2⟩
 ·rw[h];refine⟨mI c,key _ _ (yCc c) (λrows=>?_),λj hj=>(h2 j hj).symm⟩;have:=zSt (rows:=rows) (b:=0) c []
  rwa [List.append_nil]at this
 ·rw[h];exact⟨λ_=>true,key _ _ (Tz (by decide) (by decide) (by decide) (by decide) (by decide) (by decide)) (λrows=>rfl),λj hj=>(h2 j hj).symm⟩
 ·cases hs:kX p with
  |nil=>rw[hs]at h;cases h
  |cons d s =>
   rw[hs]at h h2;simp only[List.head?_cons,aA]at h;subst h;obtain⟨x,h6,h7⟩:=h2 [];rw[List.append_nil]at h6;refine⟨x,key _ _ (Tz (by decide) (by decide) (by decide) (by decide) (by decide) (by decide)) (λrows=>?_),h7⟩;have e:pQ rows (91::s) 0=match vO (91::s)with
    |none=>.er 42 (s.length+1)
    |some (p,k)=>.ok (.bytes p) ((91::s).drop k) 0:=rfl
   rw[e,h6];simp only[List.drop_length]
theorem Lv(l:List Int)(hl:zAp [.arr 4 (.int .u64)] l):Aq 200000 l=some true:=by
 obtain⟨p,rfl⟩:=yEy l hl.1 hl.2;unfold Aq;simp only;rw[zNm (by omega),bA,zGv (by omega),bA,zGz (by omega),bA,zZj];rw[aS (by simp)];simp only[bA,Bool.not_true,bR];have hlen:=zVu p;rw[zMc (by omega) (by omega)];obtain⟨c,h1,h2⟩:=zNp (n:=200000) (by omega) p;simp only[bA];rw[h1,bA,h2];cases he:fK p
 ·obtain⟨x,x1,x2⟩:=zNq he;rw[x1];simp only[zLi,bR];rw[bD (by rfl),bD (by rfl),aC (by rfl)];have hg:bE (Ty.dflt aD) ((Pt.bytes x).enc 0) 0=((1,wd x,0,0,0,0,0,()):Nd):=rfl;rw[hg,bD (by rfl),aC (by rfl)];simp only;rw[uE x2];exact congrArg some ((@beq_iff (.arr 4 (.int .u64)) rfl _ _).2 rfl)
 ·have hb:aT p=[]:=by
   unfold aT;rw[List.filter_eq_nil_iff.2 (λi hi=>by rw[Es.1 he i (by simpa using hi)];simp)];rfl
  have:kX p=[]:=by unfold kX iX;rw[hb]
  rw[this];rfl
end Go.Dec
