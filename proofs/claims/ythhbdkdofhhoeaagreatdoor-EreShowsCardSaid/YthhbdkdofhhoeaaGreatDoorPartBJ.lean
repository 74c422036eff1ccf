/- Part of a proof over this seat: a library of my own, and what it says of this seat. No statement is proved here. -/
import Derived.Test.YthhbdkdofhhoeaaGreatDoorPartBI
namespace Go.Dec
section
variable {ρ:Type}{s r:List UInt8}
theorem take_at(h:r <:+ s){k:Nat}(hk:k<=r.length):(s.take (psn s (r.drop k)).toNat).drop (psn s r).toNat=r.take k:=by
 have hl:=wF h;rw[Vb,Vb,List.drop_take,Ns h,List.length_drop];congr 1;omega
theorem zLj(b:Bool)(X Y:Option ρ):br b X Y=bif b then X else Y:=by cases b<;>rfl
end
abbrev StT:Type:=List Nd × Int × List Bool × Int × Int × Unit
section
variable {n:Nat}{s r:List UInt8}{b:Nat}{en:List Bool}{l:List Nd}
theorem zUz(a:List UInt8)(c:UInt8):eH (a++[c])=eH a*10+(c.toNat-48):=by
 simp[eH,List.foldl_append]
theorem zYp:∀ {a:List UInt8},a.all isDigit=true->eH a<10 ^ a.length:=by
 intro a;induction h:a.length generalizing a with
 |zero=>intro _;rw[List.eq_nil_of_length_eq_zero h];decide
 |succ k ih =>
  intro ha;rcases List.eq_nil_or_concat a with rfl|⟨p,c,hc⟩
  ·simp at h
  ·have hc:a=p++[c]:=by rw[hc];simp
   subst hc;simp only[List.all_append,aF,List.all_cons,List.all_nil,Bool.and_true]at ha;have hp:p.length=k:=by simpa using h
   have:=ih hp ha.1;have hd:=ha.2;unfold isDigit at hd;simp only[aF,decide_eq_true_eq]at hd;rw[zUz,Nat.pow_succ];omega
end
end Go.Dec
namespace Go.Dec
theorem Ww{n:Nat}(s:List UInt8)(hs:s.length<n)(hs2:s.length<1000000)(d:UInt8):qW n (s,(d.toNat:Int))=some (s.contains d):=by
 unfold qW;simp only;have key:∀ k i m,i+k=s.length->k<m->fix (uP n) m (s,(d.toNat:Int),(i:Int),())=some ((s.drop i).contains d):=by
  intro k;induction k with
  |zero =>
   intro i m hi hm;rw[dD hm,uP];simp only;rw[aS (by simp;omega),List.drop_of_length_le (by omega)];rfl
  |succ k ih =>
   intro i m hi hm;rw[dD (by omega),uP];simp only;have hil:i<s.length:=by omega
   rw[bD (by simp;omega),aC (qR hil),qI hil,bZ (by omega) (by omega),show(i:Int)+1=((i+1:Nat):Int)by omega,ih (i+1) (m-1) (by omega) (by omega)];rw[List.drop_eq_getElem_cons hil,List.contains_cons,zSf d];have e:((s[i].toNat:Int)==(d.toNat:Int))=(s[i]==d):=by rw[eqI d,zSf]
   rw[e];cases(s[i]==d)<;>rfl
 have:=key s.length 0 n (by omega) (by omega);simpa using this
section
variable {n:Nat}{s r:List UInt8}{b:Nat}{en:List Bool}{l:List Nd}{rw':List UInt8 × Int × StT->Option (StT × Int)}{row:List UInt8->Nat->List Bool->Res (Option Pt)}
end
end Go.Dec
