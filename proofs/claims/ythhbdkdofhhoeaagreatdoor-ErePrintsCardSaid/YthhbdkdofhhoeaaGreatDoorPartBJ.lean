/- Part of a proof over this seat: a library of my own, and what it says of this seat. No statement is proved here. -/
import Derived.Test.YthhbdkdofhhoeaaGreatDoorPartBI
namespace Go.Dec
section
variable {ρ:Type}{s r:List UInt8}
theorem pk1(h:r <:+ s)(c:UInt8){k:Int}(hk:(c.toNat:Int)=k){X Y:Option ρ}:br (decide (psn s r<(s.length:Int))) (chk (inB (psn s r) s.length) (br (((aR 0 s (psn s r)).toNat:Int)==k) X Y)) Y=bif [c].isPrefixOf r then X else Y:=by
 have hl:=kS h;cases r with
 |nil=>rw[aC (by unfold psn;simp)];rfl
 |cons d r1 =>
  simp only[List.length_cons]at hl;have hg:aR 0 s (psn s (d::r1))=d:=by
   have:=Nq (d:=0) h (j:=0) (c:=d) rfl;simpa using this
  rw[aI (by unfold psn;simp;omega),aB (eT (by unfold psn;omega) (by unfold psn;simp only[List.length_cons];omega)),hg,<- hk,eqI c];rw[show [c].isPrefixOf (d::r1)=(c==d)by simp[List.isPrefixOf]];cases(c==d)<;>rfl
theorem take_at(h:r <:+ s){k:Nat}(hk:k<=r.length):(s.take (psn s (r.drop k)).toNat).drop (psn s r).toNat=r.take k:=by
 have hl:=kS h;rw[Uz,Uz,List.drop_take,Qd h,List.length_drop];congr 1;omega
theorem zXt(b:Bool)(X Y:Option ρ):br b X Y=bif b then X else Y:=by cases b<;>rfl
end
abbrev StT:Type:=List Nd × Int × List Bool × Int × Int × Unit
section
variable {n:Nat}{s r:List UInt8}{b:Nat}{en:List Bool}{l:List Nd}
theorem zCr(a:List UInt8)(c:UInt8):dZ (a++[c])=dZ a*10+(c.toNat-48):=by
 simp[dZ,List.foldl_append]
theorem zXu:∀ {a:List UInt8},a.all isDigit=true->dZ a<10 ^ a.length:=by
 intro a;induction h:a.length generalizing a with
 |zero=>intro _;rw[List.eq_nil_of_length_eq_zero h];decide
 |succ k ih =>
  intro ha;rcases List.eq_nil_or_concat a with rfl|⟨p,c,hc⟩
  ·simp at h
  ·have hc:a=p++[c]:=by rw[hc];simp
   subst hc;simp only[List.all_append,aH,List.all_cons,List.all_nil,Bool.and_true]at ha;have hp:p.length=k:=by simpa using h
   have:=ih hp ha.1;have hd:=ha.2;unfold isDigit at hd;simp only[aH,decide_eq_true_eq]at hd;rw[zCr,Nat.pow_succ];omega
def zPc (s:List UInt8):Option Nat×List UInt8->Int×Int | (none,_)=>(0,-1) | (some k,r)=>((k:Int),psn s r)
theorem zXv(h:r <:+ s)(hs:s.length<1000000)(hn:10<=n):uP n (s,psn s r)=some (zPc s (qW r)):=by
 unfold uP;simp only;have hl:=kS h;have hk:=zPa 3 r;have hfin:∀ {v:Int},v=(dZ (r.take (iB 3 r)):Int)->br (psn s (r.drop (iB 3 r))==psn s r) (some (0,(-1))) (some (v,psn s (r.drop (iB 3 r))))=some (zPc s (qW r)):=by
  intro v hv;have e:(psn s (r.drop (iB 3 r))==psn s r)=(iB 3 r==0):=by
   rw[zMi h hk.2,Bool.eq_iff_iff,beq_iff_eq,beq_iff_eq];omega
  rw[e,hv];simp only[qW];cases iB 3 r==0<;>rfl
 have key:∀ (j m:Nat) (r':List UInt8),r'=r.drop j->j+iB (3-j) r'=iB 3 r->j<=3->j<=r.length->4-j<=m->fix (sM n) m (s,psn s r,(dZ (r.take j):Int),psn s r',())=some (zPc s (qW r)):=by
  intro j;induction hm:3-j generalizing j with
  |zero =>
   intro m r' hr' hd hj hjl hmm;have hj3:j=3:=by omega
   rw[bI (by omega),sM];simp only;have e:iB 3 r=j:=by rw[<- hd];simp[iB]
   have er:r'=r.drop (iB 3 r):=by rw[e];exact hr'
   have hlim:decide (psn s r'<IntKind.wrap .i64 (psn s r+3))=false:=by
    rw[hr',show(3:Int)=((3:Nat):Int)from rfl,kF h hs (by omega),hj3];simp
   rw[er]at hlim ⊢;rw[hlim,aZ,hfin (by rw[e])];cases decide (psn s (r.drop (iB 3 r))<(s.length:Int))<;>rfl
  |succ q ih =>
   intro m r' hr' hd hj hjl hmm;have yNo:r' <:+ s:=by rw[hr'];exact zCp h j
   rw[bI (by omega),sM];simp only;have hlim:decide (psn s r'<IntKind.wrap .i64 (psn s r+3))=true:=by
    rw[hr',zMi h hjl,aW (by unfold psn;omega) (by unfold psn;omega)];simp;omega
   cases hc:r' with
   |nil =>
    rw[hc]at hd;have e:iB 3 r=j:=by rw[<- hd];rfl
    have er:r'=r.drop (iB 3 r):=by rw[e];exact hr'
    rw[<- hc,aC (by unfold psn;rw[hc];simp),er];exact hfin (by rw[e])
   |cons c r2 =>
    rw[<- hc];rw[hc]at hd;have hlr:r'.length=r2.length+1:=by rw[hc];rfl
    have hle:=kS yNo;have hg:aR 0 s (psn s r')=c:=by
     have:=Nq (d:=0) yNo (j:=0) (c:=c) (by rw[hc];rfl);simpa using this
    have hib:inB (psn s r') s.length=true:=eT (by unfold psn;omega) (by unfold psn;omega);rw[aI (by unfold psn;simp;omega),aI hlim,aB hib,hg,aB hib,aB hib];have hdd:iB (q+1) (c::r2)=bif isDigit c then iB q r2+1 else 0:=rfl
    rw[hdd]at hd;cases hdg:isDigit c
    ·rw[hdg]at hd;simp only[cond_false,Nat.add_zero]at hd;have er:r'=r.drop (iB 3 r):=by rw[<- hd];exact hr'
     unfold isDigit at hdg;have hF:=hfin (v:=(dZ (r.take j):Int)) (by rw[<- hd]);rw[<- er]at hF;rw[hF];by_cases h48:48<=c.toNat
     ·have h57:¬ c.toNat<=57:=by
       intro h57;simp[h48,h57]at hdg
      rw[aI (by simp;omega),aC (by simp;omega)]
     ·rw[aC (by simp;omega)]
    ·rw[hdg]at hd;simp only[cond_true]at hd;unfold isDigit at hdg;simp only[aH,decide_eq_true_eq]at hdg;rw[aI (by simp;omega),aI (by simp;omega)];have hr2:r2=r.drop (j+1):=by rw[<- List.drop_drop,<- hr',hc];rfl
     have hp:IntKind.wrap .i64 (psn s r'+1)=psn s r2:=by
      have:=kF yNo hs (k:=1) (by omega);rw[hc]at this ⊢;exact this
     have hjr:j<r.length:=by rw[hr',List.length_drop]at hlr;omega
     have hcj:r[j]?=some c:=by
      have:(r.drop j)[0]?=some c:=by rw[<- hr',hc];rfl
      rw[List.getElem?_drop]at this;simpa using this
     have htk:r.take (j+1)=r.take j++[c]:=by
      rw[List.take_add_one,hcj];rfl
     have hall:(r.take j).all isDigit=true:=by
      have h1:=zIo 3 r;have h2:r.take j=(r.take (iB 3 r)).take j:=by rw[List.take_take];congr 1;omega
      rw[h2,List.all_eq_true];rw[List.all_eq_true]at h1;exact λx hx=>h1 x (List.mem_of_mem_take hx)
     have hlt:=zXu hall;have hlt2:dZ (r.take j)<1000:=Nat.lt_of_lt_of_le hlt (Nat.le_trans (Nat.pow_le_pow_right (by omega) (show(r.take j).length<=3 by rw[List.length_take];omega)) (by omega));rw[hp,IntWalk.u8_in _ (by omega),aW (x:=(c.toNat:Int)-48) (by omega) (by omega),aW (x:=(dZ (r.take j):Int)*10) (by omega) (by omega),aW (by omega) (by omega)];have ev:(dZ (r.take j):Int)*10+((c.toNat:Int)-48)=(dZ (r.take (j+1)):Int):=by
      rw[htk,zCr];omega
     rw[ev];exact ih (j+1) (by omega) (m-1) r2 hr2 (by rw[<- hd];omega) (by omega) (by omega) (by omega)
 have:=key 0 n r (by simp) (by simp) (by omega) (by omega) (by omega);exact this
def zPd (s:List UInt8):Option (Int×Int×List UInt8)->Int×Int×Int | none=>(0,0,-1) | some (lo,hi,r)=>(lo,hi,psn s r)
end
end Go.Dec
namespace Go.Dec
theorem Tg{n:Nat}(s:List UInt8)(hs:s.length<n)(hs2:s.length<1000000)(d:UInt8):tT n (s,(d.toNat:Int))=some (s.contains d):=by
 unfold tT;simp only;have key:∀ k i m,i+k=s.length->k<m->fix (zI n) m (s,(d.toNat:Int),(i:Int),())=some ((s.drop i).contains d):=by
  intro k;induction k with
  |zero =>
   intro i m hi hm;rw[bI hm,zI];simp only;rw[aC (by simp;omega),List.drop_of_length_le (by omega)];rfl
  |succ k ih =>
   intro i m hi hm;rw[bI (by omega),zI];simp only;have hil:i<s.length:=by omega
   rw[aI (by simp;omega),aB (fQ hil),gX hil,aW (by omega) (by omega),show(i:Int)+1=((i+1:Nat):Int)by omega,ih (i+1) (m-1) (by omega) (by omega)];rw[List.drop_eq_getElem_cons hil,List.contains_cons,zCj d];have e:((s[i].toNat:Int)==(d.toNat:Int))=(s[i]==d):=by rw[eqI d,zCj]
   rw[e];cases(s[i]==d)<;>rfl
 have:=key s.length 0 n (by omega) (by omega);simpa using this
section
variable {n:Nat}{s r:List UInt8}{b:Nat}{en:List Bool}{l:List Nd}{rw':List UInt8 × Int × StT->Option (StT × Int)}{row:List UInt8->Nat->List Bool->Res (Option Pt)}
theorem zXw(d:UInt8):bx (ofP [d])=bx (Lf d):=kE λi hi=>by
 simp only[ofP,Lf];rw[Bool.eq_iff_iff];simp;omega
end
end Go.Dec
