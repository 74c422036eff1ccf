/- Part of a proof over this seat: a library of my own, and what it says of this seat. No statement is proved here. -/
import Derived.Test.YtfbilefiaminnaaGreatDoorPartAK
import Derived.Test.YtfbilefiaminnaaGreatDoorPartAJ
namespace Go.Dec
def Ans {α:Type} (o:Option α) (Q:α->Prop):Prop := ∃ y,o = some y ∧ Q y
variable {α β γ ρ:Type}
variable {Q:ρ->Prop}
theorem Ans.some{y:ρ}(h:Q y):Ans (Option.some y) Q:=⟨y,rfl,h⟩
theorem Ans.chk{b:Bool}{r:Option ρ}(hb:b=true)(h:Ans r Q):Ans (chk b r) Q:=by subst hb;exact h
theorem Ans.br{b:Bool}{x y:Option ρ}(h1:b=true->Ans x Q)(h2:b=false->Ans y Q):Ans (br b x y) Q:=by
 cases b
 ·exact h2 rfl
 ·exact h1 rfl
theorem Ans.ob{o:Option α}{k:α->Option ρ}(P:α->Prop)(h:Ans o P)(hk:∀ y,P y->Ans (k y) Q):Ans (ob o k) Q:=by
 obtain⟨y,rfl,hy⟩:=h;exact hk y hy
theorem Ans.ob2{o:Option (Sum α γ)}{k:α->Option ρ}{k':γ->Option ρ}(P:α->Prop)(P':γ->Prop)(h:Ans o (λs=>(∀ y,s=.inl y->P y)/\∀ z,s=.inr z->P' z))(hk:∀ y,P y->Ans (k y) Q)(hk':∀ y,P' y->Ans (k' y) Q):Ans (ob2 o k k') Q:=by
 obtain⟨y,rfl,h1,h2⟩:=h;cases y with
 |inl y=>exact hk y (h1 y rfl)
 |inr z=>exact hk' z (h2 z rfl)
theorem Ans.mono{o:Option ρ}{P:ρ->Prop}(h:Ans o P)(hp:∀ y,P y->Q y):Ans o Q:=by
 obtain⟨y,hy,h⟩:=h;exact⟨y,hy,hp y h⟩
theorem Ans.loop{B:(α->Option ρ)->α->Option ρ}(I:α->Prop)(m:α->Nat)(h:∀ r x,I x->(∀ y,I y->m y<m x->Ans (r y) Q)->Ans (B r x) Q):∀ n x,I x->m x<n->Ans (Go.Dec.fix B n x) Q
 |0,x,_,hm=>absurd hm (Nat.not_lt_zero _)
 |n+1,x,hI,hm=>h (fix B n) x hI λy hy hlt=>Ans.loop I m h n y hy (by omega)
end Go.Dec
