/- Part of a proof over this seat: a library of my own, and what it says of this seat. No statement is proved here. -/
import Derived.Lib.IndexMore
import Derived.Lib.Index
import Derived.Test.YthhbdkdofhhoeaaGreatDoorPartAM
import Derived.IntWalk
namespace Go.Dec
end Go.Dec
namespace Go.Dec
@[simp] theorem dK {ρ:Type}(x y:Option ρ):br true x y=x:=rfl
@[simp] theorem bR {ρ:Type}(x y:Option ρ):br false x y=y:=rfl
@[simp] theorem bA {α ρ:Type}(a:α) (k:α->Option ρ):ob (some a) k=k a:=rfl
@[simp] theorem yIr {ρ:Type}(x:Option ρ):chk true x=x:=rfl
theorem zJw{α:Type}{f:α->α->Bool}(hf:∀ a b,f a b=true<->a=b):∀ {x y:List α},Fg f x y=true<->x=y
 |[],[]=>by simp[Fg]
 |[],_::_=>by simp[Fg]
 |_::_,[]=>by simp[Fg]
 |a::x,b::y=>by simp[Fg,hf,zJw hf]
theorem beq_iff:∀ {t:Ty},t.cmp=true->∀ {x y:t.den},t.beq x y=true<->x=y
 |.unit,_,_,_=>by simp[Ty.beq]
 |.bool,_,_,_=>by simp[Ty.beq,Ty.beq.Bool.beq']
 |.int _,_,_,_=>by simp[Ty.beq,Ty.beq.Int.beq']
 |.str,_,_,_=>by simp[Ty.beq,Ty.beq.List.beq']
 |.pair a b,h,x,y=>by
  simp only[Ty.cmp,aF]at h;simp only[Ty.beq,aF,beq_iff h.1,beq_iff h.2];exact⟨λh=>Prod.ext h.1 h.2,λh=>by subst h;exact⟨rfl,rfl⟩⟩
 |.arr n a,h,x,y=>by
  simp only[Ty.cmp]at h;simp only[Ty.beq];exact zJw λ_ _=>beq_iff h
 |.slice _,h,_,_=>by cases h
 |.err,h,_,_=>by cases h
 |.opq,h,_,_=>by cases h
end Go.Dec
namespace Go.Dec
theorem Yc{ρ α:Type}(B:(α->Option ρ)->α->Option ρ)(n:Nat)(x:α):fix B (n+1) x=B (fix B n) x:=rfl
theorem dD{ρ α:Type}{B:(α->Option ρ)->α->Option ρ}{n:Nat}{x:α}(h:0<n):fix B n x=B (fix B (n-1)) x:=by
 cases n with
 |zero=>omega
 |succ n=>rfl
theorem bZ{x:Int}(h:-9223372036854775808<=x)(h2:x<=9223372036854775807):IntKind.wrap .i64 x=x:=IntWalk.i64_in x ⟨h,h2⟩
theorem gW{i:Int}{n:Nat}(h:0<=i)(h2:i<n):inB i n=true:=by simp[inB,h,h2]
theorem qR{i n:Nat}(h:i<n):inB (i:Int) n=true:=gW (by omega) (by omega)
end Go.Dec
