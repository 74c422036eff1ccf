/- Part of a proof over this seat: a library of my own, and what it says of this seat. No statement is proved here. -/
import Derived.Lib.IndexMore
import Derived.Lib.Index
import Derived.Test.YthhbdkdofhhoeaaGreatDoorPartAM
import Derived.IntWalk
namespace Go.Dec
end Go.Dec
namespace Go.Dec
@[simp] theorem bQ {ρ:Type}(x y:Option ρ):br true x y=x:=rfl
@[simp] theorem aZ {ρ:Type}(x y:Option ρ):br false x y=y:=rfl
@[simp] theorem aK {α ρ:Type}(a:α) (k:α->Option ρ):ob (some a) k=k a:=rfl
@[simp] theorem xAs {ρ:Type}(x:Option ρ):chk true x=x:=rfl
theorem zVt{α:Type}{f:α->α->Bool}(hf:∀ a b,f a b=true<->a=b):∀ {x y:List α},Nw f x y=true<->x=y
 |[],[]=>by simp[Nw]
 |[],_::_=>by simp[Nw]
 |_::_,[]=>by simp[Nw]
 |a::x,b::y=>by simp[Nw,hf,zVt hf]
theorem beq_iff:∀ {t:Ty},t.cmp=true->∀ {x y:t.den},t.beq x y=true<->x=y
 |.unit,_,_,_=>by simp[Ty.beq]
 |.bool,_,_,_=>by simp[Ty.beq,Ty.beq.Bool.beq']
 |.int _,_,_,_=>by simp[Ty.beq,Ty.beq.Int.beq']
 |.str,_,_,_=>by simp[Ty.beq,Ty.beq.List.beq']
 |.pair a b,h,x,y=>by
  simp only[Ty.cmp,aH]at h;simp only[Ty.beq,aH,beq_iff h.1,beq_iff h.2];exact⟨λh=>Prod.ext h.1 h.2,λh=>by subst h;exact⟨rfl,rfl⟩⟩
 |.arr n a,h,x,y=>by
  simp only[Ty.cmp]at h;simp only[Ty.beq];exact zVt λ_ _=>beq_iff h
 |.slice _,h,_,_=>by cases h
 |.err,h,_,_=>by cases h
 |.opq,h,_,_=>by cases h
theorem beq_false{t:Ty}(h:t.cmp=true){x y:t.den}(hne:x≠y):t.beq x y=false:=by
 cases hb:t.beq x y with
 |false=>rfl
 |true=>exact absurd ((beq_iff h).1 hb) hne
end Go.Dec
namespace Go.Dec
theorem zHe{ρ α:Type}(B:(α->Option ρ)->α->Option ρ)(n:Nat)(x:α):fix B (n+1) x=B (fix B n) x:=rfl
theorem bI{ρ α:Type}{B:(α->Option ρ)->α->Option ρ}{n:Nat}{x:α}(h:0<n):fix B n x=B (fix B (n-1)) x:=by
 cases n with
 |zero=>omega
 |succ n=>rfl
theorem aW{x:Int}(h:-9223372036854775808<=x)(h2:x<=9223372036854775807):IntKind.wrap .i64 x=x:=IntWalk.i64_in x ⟨h,h2⟩
theorem eT{i:Int}{n:Nat}(h:0<=i)(h2:i<n):inB i n=true:=by simp[inB,h,h2]
theorem fQ{i n:Nat}(h:i<n):inB (i:Int) n=true:=eT (by omega) (by omega)
end Go.Dec
