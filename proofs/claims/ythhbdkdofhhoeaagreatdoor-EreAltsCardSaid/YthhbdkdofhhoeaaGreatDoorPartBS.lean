/- Part of a proof over this seat: a library of my own, and what it says of this seat. No statement is proved here. -/
import Derived.Test.YthhbdkdofhhoeaaGreatDoorPartBP
import Derived.Test.YthhbdkdofhhoeaaGreatDoorPartBK
import Derived.Test.YthhbdkdofhhoeaaGreatDoorPartBQ
import Derived.Test.YthhbdkdofhhoeaaGreatDoorPartBR
namespace Go.Dec
def BK (first:Bool) (acc:Nat->Bool) (r:List UInt8) (S:Nat->Bool) (k:Nat):Prop :=∃ x,(∀ f,r.length<f->nM f first acc r = some (x,k)) ∧ ∀ j,j < 256->x j = (acc j||S j)
theorem BK.end{acc:Nat->Bool}{r:List UInt8}:BK false acc (93::r) (λ_=>false) 1:=by
 refine⟨acc,λf hf=>?_,λj _=>by simp⟩;obtain⟨f,rfl⟩:∃ k,f=k+1:=⟨f-1,by simp at hf;omega⟩;rfl
theorem BK.step{first:Bool}{acc p S T:Nat->Bool}{r r':List UInt8}{k1 k:Nat}(hno:([93].isPrefixOf r&&!first)=false)(hp:sW first r=some (p,k1))(hr:r.drop k1=r')(h:BK false (λj=>acc j||p j) r' S k)(hT:∀ j,j<256->T j=(p j||S j)):BK first acc r T (k1+k):=by
 obtain⟨x,h1,h2⟩:=h;have hl:=Bq hp;refine⟨x,λf hf=>?_,λj hj=>?_⟩
 ·obtain⟨f,rfl⟩:∃ k,f=k+1:=⟨f-1,by omega⟩;unfold nM;rw[hno,hp];simp only[cond_false];rw[hr,h1 f (by rw[<- hr,List.length_drop];omega)]
 ·rw[h2 j hj,hT j hj,Bool.or_assoc]
def ND (r:List UInt8):Bool:=!([45].isPrefixOf r&&!([45,93].isPrefixOf r))
theorem zCd{c:UInt8}{r:List UInt8}(h:c≠45):ND (c::r)=true:=by
 have:[45].isPrefixOf (c::r)=false:=by simp[List.isPrefixOf,Ne.symm h]
 unfold ND;rw[this];rfl
def t5 (r:List UInt8):List UInt8:=93 :: r
def t4 (p:Nat->Bool) (r:List UInt8):List UInt8:=(bif p 45 then [45] else [])++t5 r
def t3 (p:Nat->Bool) (r:List UInt8):List UInt8:=(bif p 94 then [94] else [])++t4 p r
def t2 (p:Nat->Bool) (r:List UInt8):List UInt8:=(bif p 92 then [92] else [])++t3 p r
def t1 (p:Nat->Bool) (r:List UInt8):List UInt8:=(bif p 91 then [91] else [])++t2 p r
def t0 (p:Nat->Bool) (r:List UInt8):List UInt8:=(bif p 10 then [92,110] else [])++t1 p r
theorem nd4{p:Nat->Bool}{r:List UInt8}:ND (t4 p r)=true:=by
 unfold t4 t5;cases p 45<;>rfl
theorem nd3{p:Nat->Bool}{r:List UInt8}:ND (t3 p r)=true:=by
 unfold t3;cases p 94
 ·exact nd4
 ·exact zCd (by decide)
theorem nd2{p:Nat->Bool}{r:List UInt8}:ND (t2 p r)=true:=by
 unfold t2;cases p 92
 ·exact nd3
 ·exact zCd (by decide)
theorem nd1{p:Nat->Bool}{r:List UInt8}:ND (t1 p r)=true:=by
 unfold t1;cases p 91
 ·exact nd2
 ·exact zCd (by decide)
theorem yEt{p:Nat->Bool}{r:List UInt8}:r.length<=(t4 p r).length:=by unfold t4 t5;simp;omega
theorem yEu{p:Nat->Bool}{r:List UInt8}:r.length<=(t3 p r).length:=by unfold t3;have:=@yEt p r;simp;omega
theorem len2{p:Nat->Bool}{r:List UInt8}:r.length<=(t2 p r).length:=by unfold t2;have:=@yEu p r;simp;omega
theorem len1{p:Nat->Bool}{r:List UInt8}:r.length<=(t1 p r).length:=by unfold t1;have:=@len2 p r;simp;omega
theorem yCz{p:Nat->Bool}{r:List UInt8}:r.length<=(t0 p r).length:=by unfold t0;have:=@len1 p r;simp;omega
end Go.Dec
namespace Go.Dec
def HB (s:List UInt8):Prop := ∀ y,zYi (s++y) = false ∧ [36].isPrefixOf (s++y) = false ∧ [94].isPrefixOf (s++y) = false ∧ [42].isPrefixOf (s++y) = false ∧ [92,123].isPrefixOf (s++y) = false
theorem HB.app{s w:List UInt8}(h:HB s):HB (s++w):=λy=>by rw[List.append_assoc];exact h _
section
variable {row:List UInt8->Nat->List Bool->Res (Option Pt)}{first:Bool}{b:Nat}{en:List Bool}
end
end Go.Dec
namespace Go.Dec
def flat (ts:List Pt):List UInt8:=ts.flatMap Rf
def shL:List Pt->List Pt->Prop | [],[]=>True | a :: s,b :: t=>gM a b ∧ shL s t | _,_=>False
end Go.Dec
namespace Go.Dec
def HE (s:List UInt8):Prop := ∀ y,rT (s++y) = false ∧ dG (s++y) = false
theorem HE.app{s w:List UInt8}(h:HE s):HE (s++w):=λy=>by rw[List.append_assoc];exact h _
end Go.Dec
namespace Go.Dec
theorem Ww(mk:Pt->Pt->Pt)(hm:∀ a b c d,gM a c->gM b d->gM (mk a b) (mk c d)):∀ (ts us:List Pt),shL ts us->gM (kE mk ts) (kE mk us)
 |[],[],_=>trivial
 |[t],[u],h=>h.1
 |t::t2::ts,u::u2::us,h=>hm _ _ _ _ h.1 (Ww mk hm (t2::ts) (u2::us) h.2)
 |[],_::_,h=>h.elim
 |_::_,[],h=>h.elim
 |[_],_::_::_,h=>h.2.elim
 |_::_::_,[_],h=>h.2.elim
def Rh:List (List Pt)->List (List Pt)->Prop | [],[]=>True | a :: s,b :: t=>shL a b ∧ Rh s t | _,_=>False
theorem zJn:∀ (a b:List (List Pt)),Rh a b->shL (a.map gH) (b.map gH)
 |[],[],_=>trivial
 |x::a,y::b,h=>⟨Ww .cat (λ_ _ _ _ h1 h2=>⟨h1,h2⟩) x y h.1,zJn a b h.2⟩
 |[],_::_,h=>h.elim
 |_::_,[],h=>h.elim
theorem Wx{a b:List (List Pt)}(h:Rh a b):gM (bM a) (bM b):=Ww .alt (λ_ _ _ _ h1 h2=>⟨h1,h2⟩) _ _ (zJn a b h)
theorem yBs:∀ (t u:Pt),gM t u->t.sz=u.sz:=by
 intro t;induction t with
 |empty=>intro u h;cases u<;>simp only[gM]at h;rfl
 |bol=>intro u h;cases u<;>simp only[gM]at h;rfl
 |eol=>intro u h;cases u<;>simp only[gM]at h;rfl
 |bytes p=>intro u h;cases u<;>simp only[gM]at h;rfl
 |ref m=>intro u h;cases u<;>simp only[gM]at h;rfl
 |cat a b iha ihb=>intro u h;cases u<;>simp only[gM]at h;simp only[Pt.sz];rw[iha _ h.1,ihb _ h.2]
 |alt a b iha ihb=>intro u h;cases u<;>simp only[gM]at h;simp only[Pt.sz];rw[iha _ h.1,ihb _ h.2]
 |times a lo hi iha=>intro u h;cases u<;>simp only[gM]at h;simp only[Pt.sz];rw[iha _ h.1]
 |group a n iha=>intro u h;cases u<;>simp only[gM]at h;simp only[Pt.sz];rw[iha _ h]
end Go.Dec
