/- Part of a proof over this seat: a library of my own, and what it says of this seat. No statement is proved here. -/
import Derived.Test.YthhbdkdofhhoeaaGreatDoorPartBI
namespace Go.Dec
section
variable {ρ:Type}{s r:List UInt8}
theorem take_at(h:r <:+ s){k:Nat}(hk:k<=r.length):(s.take (psn s (r.drop k)).toNat).drop (psn s r).toNat=r.take k:=by
 have hl:=wC h;rw[Sm,Sm,List.drop_take,Lx h,List.length_drop];congr 1;omega
end
abbrev StT:Type:=List Nd × Int × List Bool × Int × Int × Unit
section
variable {n:Nat}{s r:List UInt8}{b:Nat}{en:List Bool}{l:List Nd}
theorem zRr(a:List UInt8)(c:UInt8):eO (a++[c])=eO a*10+(c.toNat-48):=by
 simp[eO,List.foldl_append]
theorem zVd:∀ {a:List UInt8},a.all isDigit=true->eO a<10 ^ a.length:=by
 intro a;induction h:a.length generalizing a with
 |zero=>intro _;rw[List.eq_nil_of_length_eq_zero h];decide
 |succ k ih =>
  intro ha;rcases List.eq_nil_or_concat a with rfl|⟨p,c,hc⟩
  ·simp at h
  ·have hc:a=p++[c]:=by rw[hc];simp
   subst hc;simp only[List.all_append,aD,List.all_cons,List.all_nil,Bool.and_true]at ha;have hp:p.length=k:=by simpa using h
   have:=ih hp ha.1;have hd:=ha.2;unfold isDigit at hd;simp only[aD,decide_eq_true_eq]at hd;rw[zRr,Nat.pow_succ];omega
end
end Go.Dec
namespace Go.Dec
section
variable {n:Nat}{s r:List UInt8}{b:Nat}{en:List Bool}{l:List Nd}{rw':List UInt8 × Int × StT->Option (StT × Int)}{row:List UInt8->Nat->List Bool->Res (Option Pt)}
end
end Go.Dec
