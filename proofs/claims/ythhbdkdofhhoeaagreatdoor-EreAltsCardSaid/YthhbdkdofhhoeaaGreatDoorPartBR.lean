/- Part of a proof over this seat: a library of my own, and what it says of this seat. No statement is proved here. -/
import Derived.Test.YthhbdkdofhhoeaaGreatDoorPartBN
import Derived.Test.YthhbdkdofhhoeaaGreatDoorPartBQ
import Derived.Test.YthhbdkdofhhoeaaGreatDoorPartBP
namespace Go.Dec
section
variable {n:Nat}{l:List Nd}{p:Nat->Bool}
end
end Go.Dec
namespace Go.Dec
section
variable {n:Nat}{l:List Nd}
theorem Zz{s:List UInt8}{e k:Nat}(h:nP s=.inr (e,k)):e≠0:=by
 rcases Ug s with ⟨t,hp,_⟩|⟨e',k',hp,he,_⟩
 ·rw[h]at hp;cases hp
 ·rw[h]at hp;simp only[Sum.inr.injEq,aB]at hp;obtain⟨rfl,rfl⟩:=hp;rcases he with he|he
  ·have:=he.1;omega
  ·omega
theorem Ga{s:List UInt8}{t:Pt}(h:nP s=.inl t):Ao t:=by
 rcases Ug s with ⟨u,hp,hg,_⟩|⟨e',k',hp,_⟩
 ·rw[h]at hp;simp only[Sum.inl.injEq]at hp;subst hp;exact hg
 ·rw[h]at hp;cases hp
end
end Go.Dec
