/- Part of a proof over this seat: a library of my own, and what it says of this seat. No statement is proved here. -/
import Derived.Calls
import Derived.Laws.AppendOwn
import Derived.Laws.StructEq
import Derived.Laws.Strings
namespace Go.Dec
def kbm:Nat->Nat->List Bool
|0,_=>[]
|n+1,m=>(m%2==1)::kbm n (m/2)
end Go.Dec

theorem aA.{u}{α:Type u}(a b:α):(some a=some b)=(a=b):=Option.some.injEq a b
theorem aB.{u,v}{α:Type u}{β:Type v}(a:α)(b:β)(c:α)(d:β):((a,b)=(c,d))=(a=c/\b=d):=Prod.mk.injEq a b c d
theorem aK{n m:Nat}(h:Nat.beq n m=true):n=m:=Nat.eq_of_beq_eq_true h
theorem aD(a b:Bool):((a&&b)=true)=(a=true/\b=true):=Bool.and_eq_true a b
theorem aJ.{u}{α:Type u}(a:α)(l:List α)(b:α)(m:List α):(a::l=b::m)=(a=b/\l=m):=List.cons.injEq a l b m
theorem aP(n:Nat):n<=n:=Nat.le_refl n
theorem bR{n m:Nat}(h:Nat.ble n m=true):n<=m:=Nat.le_of_ble_eq_true h
theorem jB(a b:Nat):a<b\/a≥b:=Nat.lt_or_ge a b
theorem bE.{u}{α:Type u}{l:List α}{i:Nat}{a:α}:l[i]?=some a<->∃ h:i<l.length,l[i]=a:=List.getElem?_eq_some_iff
theorem fV.{u}{α:Type u}{l m:List α}{n:Nat}(h:n<l.length):(l++m)[n]?=l[n]?:=List.getElem?_append_left h
namespace Go.Dec
inductive Ty where
 |unit|bool|int (k:IntKind)|str|err|opq
 |pair (a b:Ty)|arr (n:Nat) (a:Ty)|slice (a:Ty)
 |clip (a:Ty)
deriving DecidableEq
@[reducible] def Ty.den:Ty->Type
 |.unit=>Unit
 |.bool=>Bool
 |.int _=>Int
 |.str=>List UInt8
 |.err=>Bool
 |.opq=>Value
 |.pair a b=>a.den × b.den
 |.arr _ a=>List a.den
 |.slice a=>List a.den
 |.clip a=>List a.den
def Ty.size:Ty->Nat | .unit=>0 | .pair a b=>a.size+b.size | .arr n a=>n*a.size | _=>1
def Ty.isAgg:Ty->Bool | .arr .. | .pair .. | .unit=>true | _=>false
def Ty.dflt:(t:Ty)->t.den | .unit=>() | .bool=>false | .int _=>(0:Int) | .str=>([]:List UInt8) | .err=>false | .opq=>Value.nilFunc | .pair a b=>(a.dflt,b.dflt) | .arr n a=>List.replicate n a.dflt | .slice _=>[] | .clip _=>[]
def bD {α β:Type} (R:α->β->Prop):List α->List β->Prop | [],[]=>True | a :: x,b :: y=>R a b ∧ bD R x y | _,_=>False
section all2
variable {α β:Type}
variable {R S:α->β->Prop}
theorem bD.length:∀ {x:List α}{y:List β},bD R x y->x.length=y.length
 |[],[],_=>rfl
 |_::_,_::_,h=>congrArg (· + 1) (bD.length h.2)
theorem bD.mono(h:∀ a b,R a b->S a b):∀ {x:List α}{y:List β},bD R x y->bD S x y
 |[],[],_=>trivial
 |_::_,_::_,hx=>⟨h _ _ hx.1,bD.mono h hx.2⟩
theorem bD.get:∀ {x:List α}{y:List β}(_:bD R x y) (i:Nat) (h:i<x.length) (h':i<y.length),R x[i] y[i]
 |_::_,_::_,hx,0,_,_=>hx.1
 |_::_,_::_,hx,i+1,h,h'=>bD.get hx.2 i (Nat.lt_of_succ_lt_succ h) (Nat.lt_of_succ_lt_succ h')
theorem bD.append:∀ {x:List α}{y:List β}{x':List α}{y':List β},bD R x y->bD R x' y'->bD R (x++x') (y++y')
 |[],[],_,_,_,h=>h
 |_::_,_::_,_,_,h,h'=>⟨h.1,bD.append h.2 h'⟩
theorem bD.take:∀ {x:List α}{y:List β}(n:Nat),bD R x y->bD R (x.take n) (y.take n)
 |[],[],n,_=>by simp[bD]
 |_::_,_::_,0,_=>trivial
 |_::_,_::_,n+1,h=>⟨h.1,bD.take n h.2⟩
theorem bD.drop:∀ {x:List α}{y:List β}(n:Nat),bD R x y->bD R (x.drop n) (y.drop n)
 |[],[],n,_=>by simp[bD]
 |_::_,_::_,0,h=>h
 |_::_,_::_,n+1,h=>bD.drop n h.2
theorem bD.set:∀ {x:List α}{y:List β}(n:Nat) {a:α}{b:β},bD R x y->R a b->bD R (x.set n a) (y.set n b)
 |[],[],_,_,_,_,_=>trivial
 |_::_,_::_,0,_,_,h,h'=>⟨h',h.2⟩
 |_::_,_::_,n+1,_,_,h,h'=>⟨h.1,bD.set n h.2 h'⟩
theorem bD.mem_right:∀ {x:List α}{y:List β}(_:bD R x y) (b:β),b∈y->∃ a∈x,R a b
 |[],[],_,_,h=>by cases h
 |_::_,_::_,h,_,.head _=>⟨_,.head _,h.1⟩
 |_::_,_::_,h,b,.tail _ hb=>let ⟨a,ha,hr⟩:=bD.mem_right h.2 b hb;⟨a,.tail _ ha,hr⟩
theorem bD.replicate{a:α}{b:β}(h:R a b):∀ n,bD R (List.replicate n a) (List.replicate n b)
 |0=>trivial
 |n+1=>⟨h,bD.replicate h n⟩
end all2
theorem cB{α:Type}{n:Nat}:∀ (css:List (List α)),(∀ c∈css,c.length=n)->css.flatten.length=css.length*n
 |[],_=>by simp
 |c::css,h=>by
  simp only[List.flatten_cons,List.length_append,List.length_cons];rw[h c (.head _),cB css λc hc=>h c (.tail _ hc),Nat.succ_mul,Nat.add_comm]
theorem Fa{α:Type}{n:Nat}:∀ (css:List (List α)),(∀ c∈css,c.length=n)->∀ i j (h:i<css.length),j<n->css.flatten[i*n+j]?=css[i][j]?
 |[],_,_,_,h,_=>by cases h
 |c::css,hc,0,j,_,hj=>by
  have h1:=hc c (.head _);simp[fV,h1,hj]
 |c::css,hc,i+1,j,h,hj=>by
  have h1:=hc c (.head _);have h2:=Fa css (λc hc'=>hc c (.tail _ hc')) i j (Nat.lt_of_succ_lt_succ h) hj;have h3:(i+1)*n+j=c.length+(i*n+j):=by rw[h1,Nat.succ_mul];omega
  rw[List.flatten_cons,h3,List.getElem?_append_right (Nat.le_add_right _ _),Nat.add_sub_cancel_left,h2];rfl
theorem rX{α:Type}{n:Nat}:∀ (css:List (List α)),(∀ c∈css,c.length=n)->∀ k,css.flatten.take (k*n)=(css.take k).flatten
 |[],_,k=>by simp
 |c::css,hc,0=>by simp
 |c::css,hc,k+1=>by
  have h1:=hc c (.head _);have h2:=rX css (λc hc'=>hc c (.tail _ hc')) k;have h3:(k+1)*n=c.length+k*n:=by rw[h1,Nat.succ_mul];omega
  rw[List.flatten_cons,h3,List.take_length_add_append,h2];rfl
theorem oP{α:Type}{n:Nat}:∀ (css:List (List α)),(∀ c∈css,c.length=n)->∀ k,css.flatten.drop (k*n)=(css.drop k).flatten
 |[],_,k=>by simp
 |c::css,hc,0=>by simp
 |c::css,hc,k+1=>by
  have h1:=hc c (.head _);have h2:=oP css (λc hc'=>hc c (.tail _ hc')) k;have h3:(k+1)*n=c.length+k*n:=by rw[h1,Nat.succ_mul];omega
  rw[List.flatten_cons,h3,List.drop_length_add_append,h2];rfl
theorem zUj{i k n:Nat}(h:i<k):i*n+n<=k*n:=by
 have:=Nat.mul_le_mul_right n (show i+1<=k from h)
 rwa [Nat.succ_mul]at this
theorem yHj{a c k n:Nat}(h:c<=k)(h2:a<=c):a*n+(c-a)*n<=k*n:=by
 rw[<- Nat.add_mul];exact Nat.mul_le_mul_right n (by omega)
def Cells (w:World) (b off:Nat) (cs:List Value):Prop := ∀ j c,cs[j]? = some c->w.cell? ⟨b,off+j,none⟩ = some c
theorem Cells.left{w:World}{b off:Nat}{c d:List Value}(h:Cells w b off (c++d)):Cells w b off c:=λj x hx=>h j x (by
 rw[fV (bE.1 hx).1];exact hx)
theorem Cells.right{w:World}{b off:Nat}{c d:List Value}(h:Cells w b off (c++d)):Cells w b (off+c.length) d:=λj x hx=>by
 have:=h (c.length+j) x (by rw[List.getElem?_append_right (Nat.le_add_right _ _),Nat.add_sub_cancel_left];exact hx)
 rwa [Nat.add_assoc]
theorem Cells.append{w:World}{b off:Nat}{c d:List Value}(h1:Cells w b off c)(h2:Cells w b (off+c.length) d):Cells w b off (c++d):=λj x hx=>by
 by_cases hj:j<c.length
 ·exact h1 j x (by rwa [fV hj]at hx)
 ·rw[List.getElem?_append_right (by omega)]at hx;have:=h2 (j-c.length) x hx
  rwa [show off+c.length+(j-c.length)=off+j by omega]at this
theorem Cells.nil{w:World}{b off:Nat}:Cells w b off []:=λj x hx=>by simp at hx
theorem Cells.drop{w:World}{b off:Nat}{c:List Value}(h:Cells w b off c)(n:Nat):Cells w b (off+n) (c.drop n):=λj x hx=>by
 rw[List.getElem?_drop]at hx;have:=h (n+j) x hx
 rwa [Nat.add_assoc]
theorem Cells.take{w:World}{b off:Nat}{c:List Value}(h:Cells w b off c)(n:Nat):Cells w b off (c.take n):=λj x hx=>by
 rw[List.getElem?_take]at hx;split at hx
 ·exact h j x hx
 ·cases hx
def zJs {α:Type} (w:World) (N:Nat->Nat->Prop) (size:Nat) (R:α->List Value->Prop) (xs:List α) (v:Value):Prop :=(v = .slice none 0 0 ∧ xs = []) ∨ (∃ b off cap css,v = .slice (some ⟨b,off,none⟩) xs.length cap ∧ b<w.heap.size ∧ (∀ j,off<=j->j<off+xs.length*size -> ¬ N b j) ∧ xs.length<=cap ∧ cap<=maxLen ∧ bD R xs css ∧ (∀ c ∈ css,c.length = size) ∧ Cells w b off css.flatten) ∨ ∃ a cap,v = .slice (some a) 0 cap ∧ xs = [] ∧ cap<=maxLen
def xBo (v:Value):Prop := ∃ p n,v = .slice p n n
def Ty.Rel(w:World)(N:Nat->Nat->Prop):(t:Ty)->t.den->List Value->Prop
 |.unit,_,cs=>cs=[]
 |.bool,b,cs=>cs=[.bool b]
 |.int k,n,cs=>cs=[.int k n]
 |.str,s,cs=>cs=[.string ⟨s.toArray⟩]
 |.err,b,cs=>∃ v,cs=[v]/\((b=true/\∃ t x,v=.iface t x)\/(b=false/\v=.nilIface))
 |.opq,v,cs=>cs=[v]/\v.oneCell'=true
 |.pair a b,x,cs=>∃ c1 c2,cs=c1++c2/\a.Rel w N x.1 c1/\b.Rel w N x.2 c2
 |.arr n a,xs,cs=>xs.length=n/\∃ css,cs=css.flatten/\bD (λx c=>a.Rel w N x c) xs css
 |.slice a,xs,cs=>∃ v,cs=[v]/\zJs w N a.size (λx c=>a.Rel w N x c) xs v
 |.clip a,xs,cs=>∃ v,cs=[v]/\zJs w N a.size (λx c=>a.Rel w N x c) xs v/\xBo v
structure Keep (N:Nat->Nat->Prop) (w w':World):Prop where
 size:w.heap.size<=w'.heap.size
 block:∀ b,b<w.heap.size->(∀ j,¬ N b j)->w'.heap[b]?=w.heap[b]?
 place:∀ b j,b<w.heap.size->¬ N b j->∀ c,w.cell? ⟨b,j,none⟩=some c->w'.cell? ⟨b,j,none⟩=some c
theorem Keep.mP{M:Nat->Prop}{N:Nat->Nat->Prop}{w w':World}(h1:w.heap.size<=w'.heap.size)(h2:∀ b,b<w.heap.size->¬ M b->w'.heap[b]?=w.heap[b]?)(h3:∀ b j,M b->N b j):Keep N w w' :=
 ⟨h1,λb hb hn=>h2 b hb λhm=>hn 0 (h3 b 0 hm),λb j hb hn c hc=>by
  have:=World.cell?_of_block (a:=⟨b,j,none⟩) (h2 b hb λhm=>hn (h3 b j hm));rw[this];exact hc⟩
theorem Keep.refl(N:Nat->Nat->Prop)(w:World):Keep N w w:=⟨aP _,λ_ _ _=>rfl,λ_ _ _ _ _ h=>h⟩
theorem Keep.trans{N:Nat->Nat->Prop}{a b c:World}(h:Keep N a b)(h':Keep N b c):Keep N a c :=
 ⟨Nat.le_trans h.size h'.size,λk hk hn=>(h'.block k (Nat.lt_of_lt_of_le hk h.size) hn).trans (h.block k hk hn),λk j hk hn x hx=>h'.place k j (Nat.lt_of_lt_of_le hk h.size) hn x (h.place k j hk hn x hx)⟩
theorem Keep.tN{N M:Nat->Nat->Prop}{a b c:World}(h:Keep N a b)(h':Keep M b c)(hM:∀ k j,k<a.heap.size->M k j->N k j):Keep N a c :=
 ⟨Nat.le_trans h.size h'.size,λk hk hn=>(h'.block k (Nat.lt_of_lt_of_le hk h.size) λj hm=>hn j (hM k j hk hm)).trans (h.block k hk hn),λk j hk hn x hx=>h'.place k j (Nat.lt_of_lt_of_le hk h.size) (λhm=>hn (hM k j hk hm)) x (h.place k j hk hn x hx)⟩
theorem Keep.weaken{N N':Nat->Nat->Prop}{a b:World}(h:Keep N a b)(hn:∀ k j,N k j->N' k j):Keep N' a b :=
 ⟨h.size,λk hk hk'=>h.block k hk λj h=>hk' j (hn k j h),λk j hk hk'=>h.place k j hk λh=>hk' (hn k j h)⟩
theorem Keep.cells{N:Nat->Nat->Prop}{w w':World}(h:Keep N w w'){b off:Nat}{cs:List Value}(hb:b<w.heap.size)(hn:∀ j,off<=j->j<off+cs.length->¬ N b j)(hc:Cells w b off cs):Cells w' b off cs :=
 λj c hj=>h.place b (off+j) hb (hn _ (by omega) (by have:=(bE.1 hj).1;omega)) c (hc j c hj)
theorem zJs.mono{α:Type}{w w':World}{N N':Nat->Nat->Prop}{size:Nat}{R R':α->List Value->Prop}{xs:List α}{v:Value}(hk:Keep N w w')(hN:∀ b j,b<w.heap.size->N' b j->N b j)(hR:∀ x c,R x c->R' x c)(h:zJs w N size R xs v):zJs w' N' size R' xs v:=by
 rcases h with h|⟨b,off,cap,css,hv,hb,hn,hl,hm,hr,hs,hc⟩|h
 ·exact .inl h
 ·have hlen:css.flatten.length=xs.length*size:=by rw[cB css hs,<- hr.length]
  exact .inr (.inl ⟨b,off,cap,css,hv,Nat.lt_of_lt_of_le hb hk.size,λj h1 h2 h=>hn j h1 h2 (hN b j hb h),hl,hm,hr.mono hR,hs,hk.cells hb (λj h1 h2=>hn j h1 (by rw[<- hlen];exact h2)) hc⟩)
 ·exact .inr (.inr h)
theorem Ty.Rel.mono{w w':World}{N N':Nat->Nat->Prop}(hk:Keep N w w')(hN:∀ b j,b<w.heap.size->N' b j->N b j):∀ {t:Ty}{x:t.den}{cs:List Value},t.Rel w N x cs->t.Rel w' N' x cs
 |.unit,_,_,h=>h
 |.bool,_,_,h=>h
 |.int _,_,_,h=>h
 |.str,_,_,h=>h
 |.err,_,_,h=>h
 |.opq,_,_,h=>h
 |.pair a b,_,_,⟨c1,c2,e,h1,h2⟩=>⟨c1,c2,e,Ty.Rel.mono (t:=a) hk hN h1,Ty.Rel.mono (t:=b) hk hN h2⟩
 |.arr _ a,_,_,⟨hn,css,e,h⟩=>⟨hn,css,e,h.mono λ_ _=>Ty.Rel.mono (t:=a) hk hN⟩
 |.slice a,_,_,⟨v,e,h⟩=>⟨v,e,h.mono hk hN λ_ _=>Ty.Rel.mono (t:=a) hk hN⟩
 |.clip a,_,_,⟨v,e,h,ht⟩=>⟨v,e,h.mono hk hN λ_ _=>Ty.Rel.mono (t:=a) hk hN,ht⟩
theorem Ty.Rel.length{w:World}{N:Nat->Nat->Prop}:∀ {t:Ty}{x:t.den}{cs:List Value},t.Rel w N x cs->cs.length=t.size
 |.unit,_,_,h=>by simp only[Ty.Rel]at h;subst h;rfl
 |.bool,_,_,h=>by simp only[Ty.Rel]at h;subst h;rfl
 |.int _,_,_,h=>by simp only[Ty.Rel]at h;subst h;rfl
 |.str,_,_,h=>by simp only[Ty.Rel]at h;subst h;rfl
 |.err,_,_,⟨v,e,_⟩=>by subst e;rfl
 |.opq,_,_,⟨e,_⟩=>by subst e;rfl
 |.pair a b,_,_,⟨c1,c2,e,h1,h2⟩=>by subst e;simp[Ty.size,Ty.Rel.length (t:=a) h1,Ty.Rel.length (t:=b) h2]
 |.arr n a,_,_,⟨hn,css,e,h⟩=>by
  subst e;rw[cB (n:=a.size) css λc hc=>by obtain⟨x,_,hx⟩:=h.mem_right c hc;exact Ty.Rel.length (t:=a) hx];rw[<- h.length,hn];rfl
 |.slice a,_,_,⟨v,e,_⟩=>by subst e;rfl
 |.clip a,_,_,⟨v,e,_⟩=>by subst e;rfl
theorem Ty.Rel.one{w:World}{N:Nat->Nat->Prop}:∀ {t:Ty}{x:t.den}{cs:List Value},t.Rel w N x cs->∀ c∈cs,c.oneCell'=true
 |.unit,_,_,h=>by simp only[Ty.Rel]at h;subst h;simp
 |.bool,_,_,h=>by simp only[Ty.Rel]at h;subst h;simp[Value.oneCell']
 |.int _,_,_,h=>by simp only[Ty.Rel]at h;subst h;simp[Value.oneCell']
 |.str,_,_,h=>by simp only[Ty.Rel]at h;subst h;simp[Value.oneCell']
 |.err,_,_,⟨v,e,h⟩=>by
  subst e;rcases h with ⟨_,t,x,rfl⟩|⟨_,rfl⟩<;>simp[Value.oneCell']
 |.opq,_,_,⟨e,h⟩=>by subst e;simpa using h
 |.pair a b,_,_,⟨c1,c2,e,h1,h2⟩=>by
  subst e;intro c hc;rcases List.mem_append.1 hc with hc|hc
  ·exact Ty.Rel.one (t:=a) h1 c hc
  ·exact Ty.Rel.one (t:=b) h2 c hc
 |.arr n a,_,_,⟨hn,css,e,h⟩=>by
  subst e;intro c hc;obtain⟨l,hl,hc⟩:=List.mem_flatten.1 hc;obtain⟨x,_,hx⟩:=h.mem_right l hl;exact Ty.Rel.one (t:=a) hx c hc
 |.slice a,_,_,⟨v,e,h⟩=>by
  subst e;rcases h with ⟨rfl,_⟩|⟨b,off,cap,css,rfl,_⟩|⟨a,cap,rfl,_⟩<;>simp[Value.oneCell']
 |.clip a,_,_,⟨v,e,h,_⟩=>by
  subst e;rcases h with ⟨rfl,_⟩|⟨b,off,cap,css,rfl,_⟩|⟨a,cap,rfl,_⟩<;>simp[Value.oneCell']
def Ty.bP(w:World)(N:Nat->Nat->Prop)(t:Ty)(x:t.den)(u:Value):Prop :=
 if t.isAgg then ∃ cs:List Value,u=.agg cs.toArray/\t.Rel w N x cs else t.Rel w N x [u]
theorem Ty.bP.mono{w w':World}{N N':Nat->Nat->Prop}(hk:Keep N w w')(hN:∀ b j,b<w.heap.size->N' b j->N b j){t:Ty}{x:t.den}{u:Value}(h:t.bP w N x u):t.bP w' N' x u:=by
 unfold Ty.bP at *;split
 ·rename_i ha;rw[if_pos ha]at h;obtain⟨cs,e,h⟩:=h;exact⟨cs,e,h.mono hk hN⟩
 ·rename_i ha;rw[if_neg ha]at h;exact h.mono hk hN
def nQ (w:World) (N:Nat->Nat->Prop) (kt vt:Ty) (es:List (kt.den×vt.den)) (ms:Array MapEntry):Prop :=bD (fun (x:kt.den×vt.den) (m:MapEntry)=>kt.bP w N x.1 m.key ∧ vt.bP w N x.2 m.val) es ms.toList ∧ ∀ (i:Nat) (m:MapEntry),ms[i]? = some m->m.born = i
theorem nQ.mono{w w':World}{N N':Nat->Nat->Prop}(hk:Keep N w w')(hN:∀ b j,b<w.heap.size->N' b j->N b j){kt vt:Ty}{es:List (kt.den × vt.den)}{ms:Array MapEntry}(h:nQ w N kt vt es ms):nQ w' N' kt vt es ms :=
 ⟨h.1.mono λ_ _ hx=>⟨hx.1.mono hk hN,hx.2.mono hk hN⟩,h.2⟩
end Go.Dec
namespace Go.Dec
inductive MK where
 |i (k:IntKind) (n:Int)
 |s (b:List UInt8)
 deriving DecidableEq
def MK.v:MK->Value | .i k n => .int k n | .s b => .string ⟨b.toArray⟩
def MK.beq:MK->MK->Bool
 |.i k n,.i k' m=>decide (k=k')&&n==m
 |.s b,.s c=>b==c
 |_,_=>false
def kP:List (MK × Nat)->MK->Option Nat
 |[],_=>none
 |(a,f)::r,x=>if MK.beq x a=true then some f else kP r x
def zOq(x:MK)(tab:List (MK × Nat)):Value :=
 match kP tab x with
 |some f=>.func (.func f) #[] #[]
 |none=>.nilFunc
inductive L where
 |val (t:Ty) (x:t.den)
 |ptr (id off:Nat)
 |rY (id off es i sub:Nat)
 |lF
 |fC (id off:Nat)
 |iZ (id ver i off:Nat)
 |qY (t:Ty) (x:t.den) (off:Nat)
 |sl (id ver off len:Nat)
 |own (id ver:Nat)
 |bJ
 |clo (f:Nat) (caps:List L)
 |bad (size:Nat)
 |mp (id:Nat)
 |Rz (x:MK) (tab:List (MK × Nat))
inductive V where
 |one (l:L)
 |agg (ls:List L)
 |tup (vs:List (Sum L (List L)))
 |bY
inductive Ob where
 |box (e:TypeId) (ls:List L)
 |arr (e:TypeId) (t:Ty) (ver:Nat) (rows:List t.den) (wr:Bool)
 |fm (tab:List (MK × Nat))
 |dm (kt vt:Ty) (es:List (kt.den × vt.den))
 |stk (e ei:TypeId) (ver:Nat) (rows:List (Int × Int × List Int × List Int × Unit)) (top:Option (List L))
def L.size:L->Nat | .val t _=>t.size | .bad n=>n | _=>1
structure Pl where
 live:Bool
 box:Bool
 ver:Nat
 blk:Option Nat
 size:Nat
 cap:Nat
 len:Nat
 sub:List (Nat × Nat)
def RP (w:World) (N:Nat->Nat->Prop) (t:Ty) (x:t.den) (off:Nat) (c:Value):Prop :=∃ b o cs,c = .pointer (some ⟨b,o+off,none⟩) ∧ b<w.heap.size ∧ (∀ j,o<=j->j<o+cs.length -> ¬ N b j) ∧ t.Rel w N x cs ∧ Cells w b o cs
def eO(p:Pl)(off len:Nat)(c:Value):Prop :=
 match p.blk with
 |none=>c=.slice none 0 0/\off=0/\len=0
 |some b=>off+len<=p.cap/\∃ o,c=.slice (some ⟨b,o,none⟩) len (p.cap-off)/\(o=off*p.size\/(off=p.cap/\0<off))
def zSf(f:Nat):List Value->Value
 |[]=>.func (.func f) #[] #[]
 |u::us=>if f<1000000 then .func (.func f) #[] (u::us).toArray else .func (.func (f-1000000)) (u::us).toArray #[]
theorem zBa{f:Nat}(h:f<1000000)(us:List Value):zSf f us=.func (.func f) #[] us.toArray:=by
 cases us with
 |nil=>rfl
 |cons u us =>
  show(if f<1000000 then _ else _)=_;rw[if_pos h]
theorem zSg{f:Nat}(h:¬ f<1000000)(u:Value)(us:List Value):zSf f (u::us)=.func (.func (f-1000000)) (u::us).toArray #[]:=by
 show(if f<1000000 then _ else _)=_;rw[if_neg h]
theorem zOr(f:Nat)(u:Value)(us:List Value):zSf (f+1000000) (u::us)=.func (.func f) (u::us).toArray #[]:=by
 rw[zSg (by omega),Nat.add_sub_cancel]
theorem zSh(f:Nat)(us:List Value):∃ g p q,zSf f us=.func (.func g) p q:=by
 cases us with
 |nil=>exact⟨_,_,_,rfl⟩
 |cons u us =>
  by_cases h:f<1000000
  ·exact⟨_,_,_,zBa h _⟩
  ·exact⟨_,_,_,zSg h _ _⟩
mutual
def L.Rel(β:Nat->Pl)(w:World)(N:Nat->Nat->Prop):L->List Value->Prop
 |.val t x,cs=>t.Rel w N x cs
 |.ptr id off,cs=>(β id).live=true/\(β id).box=true/\∃ b,(β id).blk=some b/\cs=[.pointer (some ⟨b,off,none⟩)]
 |.rY id off es i sub,cs=>(β id).live=true/\(β id).box=true/\∃ b,(β id).blk=some b/\cs=[.pointer (some ⟨b,off+i*es+sub,none⟩)]
 |.lF,cs=>cs=[.pointer none]
 |.fC id off,cs=>∃ c,cs=[c]/\(c=.pointer none\/((β id).live=true/\(β id).box=true/\∃ b,(β id).blk=some b/\c=.pointer (some ⟨b,off,none⟩)))
 |.iZ id ver i off,cs=>(β id).live=true/\(β id).box=false/\ver<=(β id).ver/\∃ c,cs=[c]/\(∃ q o,c=.pointer (some ⟨q,o,none⟩)) /\
  ((β id).ver=ver->∃ b,(β id).blk=some b/\c=.pointer (some ⟨b,i*(β id).size+off,none⟩))
 |.qY t x off,cs=>∃ c,cs=[c]/\RP w N t x off c
 |.sl id ver off len,cs=>(β id).live=true/\(β id).box=false/\ver<=(β id).ver/\∃ c,cs=[c]/\c.oneCell'=true/\((β id).ver=ver->eO (β id) off len c)
 |.own id ver,cs=>(β id).live=true/\(β id).box=false/\ver<=(β id).ver/\∃ c,cs=[c]/\c.oneCell'=true/\((β id).ver=ver->eO (β id) 0 (β id).len c)
 |.bJ,cs=>cs=[.slice none 0 0]
 |.clo f caps,cs=>∃ us,cs=[zSf f us]/\L.eD β w N caps us
 |.bad n,cs=>cs.length=n/\∀ c∈cs,c.oneCell'=true
 |.mp id,cs=>(β id).live=true/\(β id).box=true/\∃ b,(β id).blk=some b/\cs=[.map (some b)]
 |.Rz x tab,cs=>cs=[zOq x tab]
def L.eD (β:Nat->Pl) (w:World) (N:Nat->Nat->Prop):List L->List Value->Prop | [],us=>us = [] | l :: ls,us => ∃ u r,us = u :: r ∧ L.Rel β w N l [u] ∧ L.eD β w N ls r
end
def aG (β:Nat->Pl) (w:World) (N:Nat->Nat->Prop):List L->List Value->Prop | [],cs=>cs = [] | l :: ls,cs => ∃ c1 c2,cs = c1++c2 ∧ l.Rel β w N c1 ∧ aG β w N ls c2
def jH (β:Nat->Pl) (w:World) (N:Nat->Nat->Prop):Sum L (List L)->Value->Prop | .inl l,v=>l.Rel β w N [v] | .inr ls,v => ∃ cs:List Value,v = .agg cs.toArray ∧ aG β w N ls cs
def V.Rel (β:Nat->Pl) (w:World) (N:Nat->Nat->Prop):V->Value->Prop | .one l,v=>l.Rel β w N [v] | .agg ls,v => ∃ cs:List Value,v = .agg cs.toArray ∧ aG β w N ls cs | .tup vs,v => ∃ us:List Value,v = .tuple us.toArray ∧ bD (jH β w N) vs us | .bY,_=>True
def Cv (tab:List (MK×Nat)) (es:List MapEntry):Prop :=(∀ e ∈ es,∃ x f,e.key = x.v ∧ e.val = .func (.func f) #[] #[] ∧ kP tab x = some f) ∧ ∀ q ∈ tab,∃ e ∈ es,e.key = q.1.v
def Tq (w:World) (ei:TypeId) (xs:List Int) (v:Value) (bs:List Nat):Prop :=(v = .slice none 0 0 ∧ xs = [] ∧ bs = []) ∨ ∃ b cap cur,bs = [b] ∧ v = .slice (some ⟨b,0,none⟩) xs.length cap ∧ w.heap[b]? = some (.cells cur ei (0,0)) ∧ cur.toList.take xs.length = xs.map (Value.int .i64) ∧ cur.size = cap ∧ xs.length<=cap ∧ cap<=maxLen
def iX(w:World)(ei:TypeId):List (Int × Int × List Int × List Int × Unit)->List Value->List Nat->Prop
 |[],cs,bs=>cs=[]/\bs=[]
 |f::fs,cs,bs=>∃ v1 v2 b1 b2 cs' bs',cs=.int .i64 f.1::.int .i64 f.2.1::v1::v2::cs'/\bs=b1++(b2++bs')/\Tq w ei f.2.2.1 v1 b1/\Tq w ei f.2.2.2.1 v2 b2/\iX w ei fs cs' bs'
def Kq:Option (List L)->Nat | none=>0 | some _=>1
def Vk (β:Nat->Pl) (w:World) (N:Nat->Nat->Prop):Option (List L)->List Value->Prop | none,cs=>cs = [] | some ls,cs=>aG β w N ls cs ∧ cs.length = 4
theorem Vk.imp{β β':Nat->Pl}{w w':World}{N N':Nat->Nat->Prop}{top:Option (List L)}{cs:List Value}(h:Vk β w N top cs)(f:List L->List L)(hf:∀ ls cs,top=some ls->aG β w N ls cs->aG β' w' N' (f ls) cs):Vk β' w' N' (top.map f) cs:=by
 cases top with
 |none=>exact h
 |some ls=>exact⟨hf ls cs rfl h.1,h.2⟩
theorem zCz{top:Option (List L)}{f:List L->List L}:Kq (top.map f)=Kq top:=by cases top<;>rfl
theorem Tq.mono{w w':World}{ei:TypeId}{xs:List Int}{v:Value}{bs:List Nat}(h:Tq w ei xs v bs)(hb:∀ b∈bs,w'.heap[b]?=w.heap[b]?):Tq w' ei xs v bs:=by
 rcases h with h|⟨b,cap,cur,h1,h2,h3,h4⟩
 ·exact .inl h
 ·exact .inr ⟨b,cap,cur,h1,h2,by rw[hb b (by rw[h1];exact .head _)];exact h3,h4⟩
theorem iX.mono{w w':World}{ei:TypeId}:∀ {fs:List (Int × Int × List Int × List Int × Unit)}{cs:List Value}{bs:List Nat},iX w ei fs cs bs->(∀ b∈bs,w'.heap[b]?=w.heap[b]?)->iX w' ei fs cs bs
 |[],_,_,h,_=>h
 |_::_,_,_,⟨v1,v2,b1,b2,cs',bs',h1,h2,h3,h4,h5⟩,hb=>⟨v1,v2,b1,b2,cs',bs',h1,h2,
  h3.mono λb hm=>hb b (by rw[h2];exact List.mem_append_left _ hm),h4.mono λb hm=>hb b (by rw[h2];exact List.mem_append_right _ (List.mem_append_left _ hm)),
  iX.mono h5 λb hm=>hb b (by rw[h2];exact List.mem_append_right _ (List.mem_append_right _ hm))⟩
theorem iX.length{w:World}{ei:TypeId}:∀ {fs:List (Int × Int × List Int × List Int × Unit)}{cs:List Value}{bs:List Nat},iX w ei fs cs bs->cs.length=fs.length*4
 |[],_,_,h=>by rw[h.1];rfl
 |_::fs,_,_,⟨v1,v2,b1,b2,cs',bs',h1,h2,h3,h4,h5⟩=>by
  rw[h1,List.length_cons,List.length_cons,List.length_cons,List.length_cons,iX.length h5,List.length_cons];omega
theorem Tq.one{w:World}{ei:TypeId}{xs:List Int}{v:Value}{bs:List Nat}(h:Tq w ei xs v bs):v.oneCell'=true:=by
 rcases h with ⟨rfl,_⟩|⟨b,cap,cur,_,rfl,_⟩<;>rfl
theorem iX.one{w:World}{ei:TypeId}:∀ {fs:List (Int × Int × List Int × List Int × Unit)}{cs:List Value}{bs:List Nat},iX w ei fs cs bs->∀ c∈cs,c.oneCell'=true
 |[],_,_,h,c,hc=>by rw[h.1]at hc;cases hc
 |_::_,_,_,⟨v1,v2,b1,b2,cs',bs',h1,h2,h3,h4,h5⟩,c,hc=>by
  rw[h1]at hc;simp only[List.mem_cons]at hc;rcases hc with rfl|rfl|rfl|rfl|hc
  ·rfl
  ·rfl
  ·exact h3.one
  ·exact h4.one
  ·exact iX.one h5 c hc
theorem iX.get{w:World}{ei:TypeId}:∀ {fs:List (Int × Int × List Int × List Int × Unit)}{cs:List Value}{bs:List Nat},iX w ei fs cs bs->∀ (i:Nat) (f:Int × Int × List Int × List Int × Unit),fs[i]?=some f ->
 ∃ v1 v2,(cs.drop (i*4)).take 4=[.int .i64 f.1,.int .i64 f.2.1,v1,v2]/\v1.oneCell'=true/\v2.oneCell'=true
 |[],_,_,_,i,f,h=>by simp at h
 |_::_,_,_,⟨v1,v2,b1,b2,cs',bs',h1,h2,h3,h4,h5⟩,0,f,h=>by
  simp only[List.getElem?_cons_zero,aA]at h;subst h;exact⟨v1,v2,by rw[h1];rfl,h3.one,h4.one⟩
 |_::fs,_,_,⟨v1,v2,b1,b2,cs',bs',h1,h2,h3,h4,h5⟩,i+1,f,h=>by
  obtain⟨u1,u2,g1,g2⟩:=iX.get h5 i f (by simpa using h);refine⟨u1,u2,?_,g2⟩;rw[h1,show(i+1)*4=i*4+4 by omega];exact g1
theorem iX.append{w:World}{ei:TypeId}:∀ {fs:List (Int × Int × List Int × List Int × Unit)}{cs:List Value}{bs:List Nat} {fs' cs' bs'},iX w ei fs cs bs->iX w ei fs' cs' bs'->iX w ei (fs++fs') (cs++cs') (bs++bs')
 |[],_,_,_,_,_,h,h'=>by rw[h.1,h.2];exact h'
 |_::fs,_,_,_,_,_,⟨v1,v2,b1,b2,cs',bs',h1,h2,h3,h4,h5⟩,h'=>⟨v1,v2,b1,b2,_,_,by rw[h1];rfl,by rw[h2,List.append_assoc,List.append_assoc],h3,h4,iX.append h5 h'⟩
theorem iX.split{w:World}{ei:TypeId}:∀ {fs fs':List (Int × Int × List Int × List Int × Unit)}{cs:List Value}{bs:List Nat},iX w ei (fs++fs') cs bs->∃ c1 c2 d1 d2,cs=c1++c2/\bs=d1++d2/\iX w ei fs c1 d1/\iX w ei fs' c2 d2
 |[],_,cs,bs,h=>⟨[],cs,[],bs,rfl,rfl,⟨rfl,rfl⟩,h⟩
 |_::fs,_,_,_,⟨v1,v2,b1,b2,cs',bs',h1,h2,h3,h4,h5⟩=>by
  obtain⟨c1,c2,d1,d2,e1,e2,e3,e4⟩:=iX.split h5;exact⟨_::_::v1::v2::c1,c2,b1++(b2++d1),d2,by rw[h1,e1];rfl,by rw[h2,e2,List.append_assoc,List.append_assoc],⟨v1,v2,b1,b2,c1,d1,rfl,rfl,h3,h4,e3⟩,e4⟩
def Ob.Rel (β:Nat->Pl) (w:World) (N:Nat->Nat->Prop) (p:Pl):Ob->Prop | .box e ls=>p.live = true ∧ p.box = true ∧ ∃ b cs,p.blk = some b ∧ aG β w N ls cs ∧ w.heap[b]? = some (.cells cs.toArray e (0,0)) | .arr e t ver rows _=>p.live = true ∧ p.box = false ∧ p.ver = ver ∧ p.size = t.size ∧ 0<t.size ∧ p.len = rows.length ∧ ((p.blk = none ∧ rows = [] ∧ p.cap = 0) ∨ ∃ b cur css,p.blk = some b ∧ w.heap[b]? = some (.cells cur e (0,0)) ∧ bD (fun x c=>t.Rel w N x c) rows css ∧ cur.toList.take (rows.length*t.size) = css.flatten ∧ cur.size = p.cap*t.size ∧ rows.length<=p.cap ∧ p.cap<=maxLen) | .fm tab=>p.live = true ∧ p.box = true ∧ ∃ b es n,p.blk = some b ∧ w.heap[b]? = some (.map es n) ∧ Cv tab es.toList | .dm kt vt es=>p.live = true ∧ p.box = true ∧ ∃ b ms,p.blk = some b ∧ w.heap[b]? = some (.map ms ms.size) ∧ nQ w N kt vt es ms | .stk e ei ver rows top=>p.live = true ∧ p.box = false ∧ p.ver = ver ∧ p.size = 4 ∧ p.len = rows.length+Kq top ∧ ∃ b cur cs cs2 bs,p.blk = some b ∧ w.heap[b]? = some (.cells cur e (0,0)) ∧ cur.size = p.cap * 4 ∧ p.len<=p.cap ∧ p.cap<=maxLen ∧ p.sub = bs.map (fun q=>(q,0)) ∧ bs.Nodup ∧ b ∉ bs ∧ iX w ei rows cs bs ∧ Vk β w N top cs2 ∧ cur.toList.take (p.len * 4) = cs++cs2
def Ob.wr:Ob->Bool | .box ..=>true | .arr _ _ _ _ b=>b | .fm _=>true | .dm ..=>true | .stk ..=>true
def Ob.sU:Ob->Bool | .box ..=>false | .arr ..=>false | .fm _=>false | .dm ..=>false | .stk ..=>true
def Ob.plain (o:Ob):Bool:=!o.sU
def Ob.at (o:Ob) (p:Pl) (b j:Nat):Prop:=p.blk = some b ∨ (o.sU = true ∧ ∃ m,(b,m) ∈ p.sub ∧ m<=j)
def Ob.blks (o:Ob) (p:Pl) (b:Nat):Prop := ∃ j,o.at p b j
theorem Ob.mH{o:Ob}{p:Pl}{b j:Nat}(h:p.blk=some b):o.at p b j:=.inl h
theorem Ob.wS{o:Ob}{p:Pl}{b:Nat}(h:p.blk=some b):o.blks p b:=⟨0,Ob.mH h⟩
theorem Ob.zMm{o:Ob}{p:Pl}{b j:Nat}(hp:o.plain=true)(h:o.at p b j):p.blk=some b:=by
 rcases h with h|⟨h,_⟩
 ·exact h
 ·simp[Ob.plain,h]at hp
theorem Ob.uG{o:Ob}{p:Pl}{b:Nat}(hp:o.plain=true)(h:o.blks p b):p.blk=some b:=by obtain⟨j,h⟩:=h;exact Ob.zMm hp h
theorem Ob.zA{o o':Ob}{p p':Pl}{b j:Nat}(h1:o.sU=o'.sU)(h2:p.blk=p'.blk)(h3:p.sub=p'.sub)(h:o.at p b j):o'.at p' b j:=by
 unfold Ob.at at *;rw[<- h1,<- h2,<- h3];exact h
theorem Ob.mI{o o':Ob}{p p':Pl}{b:Nat}(h1:o.sU=o'.sU)(h2:p.blk=p'.blk)(h3:p.sub=p'.sub)(h:o.blks p b):o'.blks p' b:=by
 obtain⟨j,h⟩:=h;exact⟨j,Ob.zA h1 h2 h3 h⟩
theorem Ob.Rel.yPj{β:Nat->Pl}{w:World}{N:Nat->Nat->Prop}{o:Ob}{p:Pl}(h:o.Rel β w N p)(hb:p.box=true):o.sU=false:=by
 cases o with
 |stk e ei ver rows top =>
  simp only[Ob.Rel]at h;rw[h.2.1]at hb;cases hb
 |_=>rfl
structure St where
 r:List V
 h:List Ob
def slash:String:=String.singleton (Char.ofNat 47)
inductive GK where
 |int (k:IntKind)
 |tab (k:IntKind) (zs:List Int)
 |any
def GK.ok (w:World) (g:Nat):GK->Prop | .int k => ∃ m:Int,w.cell? ⟨g,0,none⟩ = some (.int k m) | .tab k zs => ∃ a b,w.heap[g]? = some (.cells (zs.map (Value.int k)).toArray a b) | .any => ∃ v,w.cell? ⟨g,0,none⟩ = some v ∧ (v = .nilIface ∨ ∃ te pe,v = .iface te pe)
def yHk:List Int:=[0,1,56,2,57,49,28,3,61,58,42,50,38,29,17,4,62,47,59,36,45,43,51,22,53,39,33,30,24,18,12,5,63,55,48,27,60,41,37,16,46,35,44,21,52,32,23,11,54,26,40,15,34,20,31,10,25,14,19,9,13,8,7,6]
def yHl:List Int:=[0,1,28,2,29,14,24,3,30,22,20,15,25,17,4,8,31,27,13,23,21,19,16,7,26,12,18,6,11,5,10,9]
def yHm:List Int:=[1,10,100,1000,10000,100000,1000000,10000000,100000000,1000000000,10000000000,100000000000,1000000000000,10000000000000,100000000000000,1000000000000000,10000000000000000,100000000000000000,1000000000000000000,10000000000000000000]
def zMn (s:String):Option GK :=
 if s = "internal" ++ slash ++ "bytealg.MaxLen" then some (.int .i64)
 else if s = "math" ++ slash ++ "bits.deBruijn64tab" then some (.tab .u8 yHk)
 else if s = "math" ++ slash ++ "bits.deBruijn32tab" then some (.tab .u8 yHl)
 else if s = "internal" ++ slash ++ "strconv.uint64pow10" then some (.tab .u64 yHm)
 else if s = "strconv.ErrSyntax" then some .any
 else if s = "strconv.ErrRange" then some .any
 else none
def Glob (P:Program) (w:World):Prop := ∀ (g:Nat) (x:Global),P.globals[g]? = some x -> ∀ k,zMn x.name = some k->k.ok w g
theorem GK.ok.keep{k:GK}{g:Nat}{w w':World}(h:k.ok w g)(hk:∀ b:Nat,b<w.heap.size->w'.heap[b]?=w.heap[b]?):k.ok w' g:=by
 have cell:∀ v,w.cell? ⟨g,0,none⟩=some v->w'.cell? ⟨g,0,none⟩=some v:=λv hv=>by
  have hlt:g<w.heap.size:=by
   rcases jB g w.heap.size with hlt|hge
   ·exact hlt
   ·simp[World.cell?,Array.getElem?_eq_none hge]at hv
  unfold World.cell? at *;rw[hk g hlt];exact hv
 cases k with
 |int k=>obtain⟨m,hm⟩:=h;exact⟨m,cell _ hm⟩
 |any=>obtain⟨v,hv,hk2⟩:=h;exact⟨v,cell _ hv,hk2⟩
 |tab k zs =>
  obtain⟨a,b,hm⟩:=h;exact⟨a,b,(hk g (Array.getElem?_eq_some_iff.1 hm).1).trans hm⟩
theorem Glob.keep{P:Program}{w w':World}(h:Glob P w)(hk:∀ b:Nat,b<w.heap.size->w'.heap[b]?=w.heap[b]?):Glob P w' :=
 λg x hx k hn=>(h g x hx k hn).keep hk
structure Ctx where
 P:Program
 N0:Nat->Nat->Prop
 w0:World
 Sb:Nat->Nat->Prop
 glob:∀ w':World,Keep Sb w0 w'->Glob P w'
 fix:List (Option Nat)
def owns (β:Nat->Pl) (h:List Ob) (b j:Nat):Prop := ∃ (id:Nat) (o:Ob),h[id]? = some o ∧ o.wr = true ∧ o.at (β id) b j
def Ctx.N (C:Ctx) (β:Nat->Pl) (h:List Ob) (b j:Nat):Prop:=C.N0 b j ∨ owns β h b j
structure fB (C:Ctx) (β:Nat->Pl) (h:List Ob) (w:World):Prop where
 obj:∀ (id:Nat) (o:Ob),h[id]?=some o->o.Rel β w (C.N β h) (β id)
 dead:∀ id:Nat,h.length<=id->(β id).live=false
 kR:∀ (i j:Nat) (o o':Ob) (b:Nat),h[i]?=some o->h[j]?=some o'->o.blks (β i) b->o'.blks (β j) b->i=j
 eY:∀ (id:Nat) (o:Ob) (b:Nat),h[id]?=some o->o.blks (β id) b->(∀ j,¬ C.N0 b j)/\b<w.heap.size/\(C.w0.heap.size<=b\/∀ j,o.wr=true->o.at (β id) b j->C.Sb b j)
 n0:∀ b j:Nat,C.N0 b j->b<C.w0.heap.size
 frame:Keep C.Sb C.w0 w
 size:C.w0.heap.size<=w.heap.size
 os:w.os=C.w0.os
 tape:w.tape=C.w0.tape
 output:w.output=C.w0.output
 fixed:∀ (j:Nat) (o:Option Nat),C.fix[j]?=some o->j<h.length/\∀ b,o=some b->(β j).blk=some b/\(β j).box=true
theorem fB.apart{C:Ctx}{β:Nat->Pl}{h:List Ob}{w:World}(hs:fB C β h w)(i j:Nat)(o o':Ob)(b:Nat)(h1:h[i]?=some o)(h2:h[j]?=some o')(h3:(β i).blk=some b)(h4:(β j).blk=some b):i=j:=hs.kR i j o o' b h1 h2 (Ob.wS h3) (Ob.wS h4)
theorem fB.Jt{C:Ctx}{β:Nat->Pl}{h:List Ob}{w:World}(hs:fB C β h w){id:Nat}{o o':Ob}{p:Pl}{b:Nat}(h1:h[id]?=some o)(ht:o'.sU=o.sU)(hb:p.blk=(β id).blk)(hsb:p.sub=(β id).sub)(hw:o'.wr=true->o.wr=true)(hbl:o'.blks p b):(∀ j,¬ C.N0 b j)/\b<w.heap.size/\(C.w0.heap.size<=b\/∀ j,o'.wr=true->o'.at p b j->C.Sb b j):=by
 obtain⟨k1,k2,k3⟩:=hs.eY id o b h1 (Ob.mI ht hb hsb hbl);exact⟨k1,k2,k3.imp (λh=>h) λh j g1 g2=>h j (hw g1) (Ob.zA ht hb hsb g2)⟩
theorem fB.fresh{C:Ctx}{β:Nat->Pl}{h:List Ob}{w:World}(hs:fB C β h w)(id:Nat)(o:Ob)(b:Nat)(h1:h[id]?=some o)(h2:(β id).blk=some b):(∀ j,¬ C.N0 b j)/\b<w.heap.size/\(C.w0.heap.size<=b\/∀ j,o.wr=true->C.Sb b j):=by
 obtain⟨k1,k2,k3⟩:=hs.eY id o b h1 (Ob.wS h2);exact⟨k1,k2,k3.imp (λh=>h) λh j hw=>h j hw (Ob.mH h2)⟩
structure Sim (C:Ctx) (β:Nat->Pl) (σ:St) (a:Act) (w:World):Prop where
 heap:fB C β σ.h w
 defers:a.defers=[]
 size:σ.r.length=a.tmps.size
 reg:∀ (i:Nat) (v:V),σ.r[i]?=some v->v.Rel β w (C.N β σ.h) (a.tmps.getD i undef)
def Moves(β β':Nat->Pl):Prop:=∀ id:Nat,(β id).live=true->β' id=β id\/((β id).box=false/\(β' id).live=true/\(β' id).box=false/\(β id).ver<(β' id).ver)
theorem Moves.refl(β:Nat->Pl):Moves β β:=λ_ _=>.inl rfl
section mono
variable {β β':Nat->Pl}
variable {w w':World}
variable {N N':Nat->Nat->Prop}
theorem RP.mono(hk:Keep N w w')(hN:∀ b j,b<w.heap.size->N' b j->N b j){t:Ty}{x:t.den}{off:Nat}{c:Value}(h:RP w N t x off c):RP w' N' t x off c:=by
 obtain⟨b,o,cs,hc,hb,hn,hr,hcs⟩:=h;exact⟨b,o,cs,hc,Nat.lt_of_lt_of_le hb hk.size,λj h1 h2 h=>hn j h1 h2 (hN b j hb h),hr.mono hk hN,hk.cells hb hn hcs⟩
mutual
theorem L.Rel.mono(hm:Moves β β')(hk:Keep N w w')(hN:∀ b j,b<w.heap.size->N' b j->N b j):∀ {l:L}{cs:List Value},l.Rel β w N cs->l.Rel β' w' N' cs
 |.val t x,cs,h=>by simp only[L.Rel]at *;exact Ty.Rel.mono hk hN h
 |.ptr id off,cs,h=>by
  simp only[L.Rel]at *;obtain⟨h1,h2,h3⟩:=h;rcases hm id h1 with e|⟨h4,_⟩
  ·rw[e];exact⟨h1,h2,h3⟩
  ·rw[h2]at h4;cases h4
 |.rY id off es i sub,cs,h=>by
  simp only[L.Rel]at *;obtain⟨h1,h2,h3⟩:=h;rcases hm id h1 with e|⟨h4,_⟩
  ·rw[e];exact⟨h1,h2,h3⟩
  ·rw[h2]at h4;cases h4
 |.lF,cs,h=>by simp only[L.Rel]at *;exact h
 |.fC id off,cs,h=>by
  simp only[L.Rel]at *;obtain⟨c,e,h⟩:=h;refine⟨c,e,?_⟩;rcases h with h|⟨h1,h2,h3⟩
  ·exact .inl h
  ·rcases hm id h1 with e|⟨h4,_⟩
   ·rw[e];exact .inr ⟨h1,h2,h3⟩
   ·rw[h2]at h4;cases h4
 |.iZ id ver i off,cs,h=>by
  simp only[L.Rel]at *;obtain⟨h1,h2,h3,c,h4,h5,h6⟩:=h;rcases hm id h1 with e|⟨h7,h8,h9,h10⟩
  ·rw[e];exact⟨h1,h2,h3,c,h4,h5,h6⟩
  ·exact⟨h8,h9,by omega,c,h4,h5,λhv=>by omega⟩
 |.qY t x off,cs,h=>by simp only[L.Rel]at *;obtain⟨c,hc,hr⟩:=h;exact⟨c,hc,hr.mono hk hN⟩
 |.sl id ver off len,cs,h=>by
  simp only[L.Rel]at *;obtain⟨h1,h2,h3,c,h4,h5,h6⟩:=h;rcases hm id h1 with e|⟨h7,h8,h9,h10⟩
  ·rw[e];exact⟨h1,h2,h3,c,h4,h5,h6⟩
  ·exact⟨h8,h9,by omega,c,h4,h5,λhv=>by omega⟩
 |.own id ver,cs,h=>by
  simp only[L.Rel]at *;obtain⟨h1,h2,h3,c,h4,h5,h6⟩:=h;rcases hm id h1 with e|⟨h7,h8,h9,h10⟩
  ·rw[e];exact⟨h1,h2,h3,c,h4,h5,h6⟩
  ·exact⟨h8,h9,by omega,c,h4,h5,λhv=>by omega⟩
 |.bJ,cs,h=>by simp only[L.Rel]at *;exact h
 |.clo f caps,cs,h=>by
  simp only[L.Rel]at *;obtain⟨us,hc,hr⟩:=h;exact⟨us,hc,L.eD.mono hm hk hN hr⟩
 |.bad n,cs,h=>by simp only[L.Rel]at *;exact h
 |.mp id,cs,h=>by
  simp only[L.Rel]at *;obtain⟨h1,h2,h3⟩:=h;rcases hm id h1 with e|⟨h4,_⟩
  ·rw[e];exact⟨h1,h2,h3⟩
  ·rw[h2]at h4;cases h4
 |.Rz x tab,cs,h=>by simp only[L.Rel]at *;exact h
theorem L.eD.mono(hm:Moves β β')(hk:Keep N w w')(hN:∀ b j,b<w.heap.size->N' b j->N b j):∀ {ls:List L}{us:List Value},L.eD β w N ls us->L.eD β' w' N' ls us
 |[],us,h=>by simp only[L.eD]at *;exact h
 |l::ls,us,h=>by
  simp only[L.eD]at *;obtain⟨u,r,e,h1,h2⟩:=h;exact⟨u,r,e,L.Rel.mono hm hk hN h1,L.eD.mono hm hk hN h2⟩
end
theorem aG.mono(hm:Moves β β')(hk:Keep N w w')(hN:∀ b j,b<w.heap.size->N' b j->N b j):∀ {ls:List L}{cs:List Value},aG β w N ls cs->aG β' w' N' ls cs
 |[],_,h=>h
 |_::_,_,⟨c1,c2,e,h1,h2⟩=>⟨c1,c2,e,h1.mono hm hk hN,aG.mono hm hk hN h2⟩
theorem jH.mono(hm:Moves β β')(hk:Keep N w w')(hN:∀ b j,b<w.heap.size->N' b j->N b j):∀ {s:Sum L (List L)}{v:Value},jH β w N s v->jH β' w' N' s v
 |.inl _,_,h=>L.Rel.mono hm hk hN h
 |.inr _,_,⟨cs,e,h⟩=>⟨cs,e,h.mono hm hk hN⟩
theorem V.Rel.mono(hm:Moves β β')(hk:Keep N w w')(hN:∀ b j,b<w.heap.size->N' b j->N b j):∀ {x:V}{v:Value},x.Rel β w N v->x.Rel β' w' N' v
 |.one _,_,h=>L.Rel.mono hm hk hN h
 |.agg _,_,⟨cs,e,h⟩=>⟨cs,e,h.mono hm hk hN⟩
 |.tup _,_,⟨us,e,h⟩=>⟨us,e,h.mono λ_ _=>jH.mono hm hk hN⟩
 |.bY,_,_=>trivial
end mono
theorem L.Rel.length{β:Nat->Pl}{w:World}{N:Nat->Nat->Prop}:∀ {l:L}{cs:List Value},l.Rel β w N cs->cs.length=l.size
 |.val t x,_,h=>by simp only[L.Rel]at h;exact h.length
 |.ptr ..,_,h=>by simp only[L.Rel]at h;obtain⟨_,_,b,_,rfl⟩:=h;rfl
 |.rY ..,_,h=>by simp only[L.Rel]at h;obtain⟨_,_,b,_,rfl⟩:=h;rfl
 |.lF,_,h=>by simp only[L.Rel]at h;subst h;rfl
 |.fC ..,_,h=>by simp only[L.Rel]at h;obtain⟨c,rfl,_⟩:=h;rfl
 |.iZ ..,_,h=>by simp only[L.Rel]at h;obtain⟨_,_,_,c,rfl,_⟩:=h;rfl
 |.qY ..,_,h=>by simp only[L.Rel]at h;obtain⟨c,rfl,_⟩:=h;rfl
 |.sl ..,_,h=>by simp only[L.Rel]at h;obtain⟨_,_,_,c,rfl,_⟩:=h;rfl
 |.own ..,_,h=>by simp only[L.Rel]at h;obtain⟨_,_,_,c,rfl,_⟩:=h;rfl
 |.bJ,_,h=>by simp only[L.Rel]at h;subst h;rfl
 |.clo ..,_,h=>by simp only[L.Rel]at h;obtain⟨us,rfl,_⟩:=h;rfl
 |.bad n,_,h=>by simp only[L.Rel]at h;exact h.1
 |.mp ..,_,h=>by simp only[L.Rel]at h;obtain⟨_,_,b,_,rfl⟩:=h;rfl
 |.Rz ..,_,h=>by simp only[L.Rel]at h;subst h;rfl
theorem L.Rel.one{β:Nat->Pl}{w:World}{N:Nat->Nat->Prop}:∀ {l:L}{cs:List Value},l.Rel β w N cs->∀ c∈cs,c.oneCell'=true
 |.val t x,_,h=>by simp only[L.Rel]at h;exact h.one
 |.ptr ..,_,h=>by simp only[L.Rel]at h;obtain⟨_,_,b,_,rfl⟩:=h;simp[Value.oneCell']
 |.rY ..,_,h=>by simp only[L.Rel]at h;obtain⟨_,_,b,_,rfl⟩:=h;simp[Value.oneCell']
 |.lF,_,h=>by simp only[L.Rel]at h;subst h;simp[Value.oneCell']
 |.fC ..,_,h=>by
  simp only[L.Rel]at h;obtain⟨c,rfl,h⟩:=h;rcases h with rfl|⟨_,_,b,_,rfl⟩<;>simp[Value.oneCell']
 |.iZ ..,_,h=>by simp only[L.Rel]at h;obtain⟨_,_,_,c,rfl,⟨q,o,rfl⟩,_⟩:=h;simp[Value.oneCell']
 |.qY ..,_,h=>by simp only[L.Rel]at h;obtain⟨c,rfl,b,o,cs,rfl,_⟩:=h;simp[Value.oneCell']
 |.sl ..,_,h=>by simp only[L.Rel]at h;obtain⟨_,_,_,c,rfl,h,_⟩:=h;simpa using h
 |.own ..,_,h=>by simp only[L.Rel]at h;obtain⟨_,_,_,c,rfl,h,_⟩:=h;simpa using h
 |.bJ,_,h=>by simp only[L.Rel]at h;subst h;simp[Value.oneCell']
 |.clo f _,_,h=>by simp only[L.Rel]at h;obtain⟨us,rfl,_⟩:=h;obtain⟨g,p,q,e⟩:=zSh f us;simp[e,Value.oneCell']
 |.bad n,_,h=>by simp only[L.Rel]at h;exact h.2
 |.mp ..,_,h=>by simp only[L.Rel]at h;obtain⟨_,_,b,_,rfl⟩:=h;simp[Value.oneCell']
 |.Rz x tab,_,h=>by simp only[L.Rel]at h;subst h;unfold zOq;split<;>simp[Value.oneCell']
theorem aG.one{β:Nat->Pl}{w:World}{N:Nat->Nat->Prop}:∀ {ls:List L}{cs:List Value},aG β w N ls cs->∀ c∈cs,c.oneCell'=true
 |[],_,h=>by simp only[aG]at h;subst h;simp
 |l::ls,_,⟨c1,c2,e,h1,h2⟩=>by
  subst e;intro c hc;rcases List.mem_append.1 hc with hc|hc
  ·exact h1.one c hc
  ·exact aG.one h2 c hc
theorem aG.append{β:Nat->Pl}{w:World}{N:Nat->Nat->Prop}:∀ {ls:List L}{cs:List Value}{ls':List L}{cs':List Value},aG β w N ls cs->aG β w N ls' cs'->aG β w N (ls++ls') (cs++cs')
 |[],_,_,_,h,h'=>by simp only[aG]at h;subst h;exact h'
 |l::ls,_,_,_,⟨c1,c2,e,h1,h2⟩,h'=>⟨c1,c2++_,by rw[e,List.append_assoc],h1,aG.append h2 h'⟩
def sizes (ls:List L):Nat:=ls.foldr (fun l n=>l.size+n) 0
theorem aG.length{β:Nat->Pl}{w:World}{N:Nat->Nat->Prop}:∀ {ls:List L}{cs:List Value},aG β w N ls cs->cs.length=sizes ls
 |[],_,h=>by simp only[aG]at h;subst h;rfl
 |l::ls,_,⟨c1,c2,e,h1,h2⟩=>by subst e;simp[sizes,h1.length,aG.length h2]
def explode:(t:Ty)->t.den->List L | .unit,_=>[] | .pair a b,x=>explode a x.1++explode b x.2 | .bool,x=>[.val .bool x] | .int k,x=>[.val (.int k) x] | .str,x=>[.val .str x] | .err,x=>[.val .err x] | .opq,x=>[.val .opq x] | .arr n a,x=>[.val (.arr n a) x] | .slice a,x=>[.val (.slice a) x] | .clip a,x=>[.val (.clip a) x]
theorem lC{β:Nat->Pl}{w:World}{N:Nat->Nat->Prop}:∀ {t:Ty}{x:t.den}{cs:List Value},t.Rel w N x cs->aG β w N (explode t x) cs
 |.unit,_,_,h=>h
 |.pair a b,_,_,⟨c1,c2,e,h1,h2⟩=>by subst e;exact(lC (t:=a) h1).append (lC (t:=b) h2)
 |.bool,_,_,h=>⟨_,[],(List.append_nil _).symm,by simpa only[L.Rel]using h,rfl⟩
 |.int _,_,_,h=>⟨_,[],(List.append_nil _).symm,by simpa only[L.Rel]using h,rfl⟩
 |.str,_,_,h=>⟨_,[],(List.append_nil _).symm,by simpa only[L.Rel]using h,rfl⟩
 |.err,_,_,h=>⟨_,[],(List.append_nil _).symm,by simpa only[L.Rel]using h,rfl⟩
 |.opq,_,_,h=>⟨_,[],(List.append_nil _).symm,by simpa only[L.Rel]using h,rfl⟩
 |.arr _ _,_,_,h=>⟨_,[],(List.append_nil _).symm,by simpa only[L.Rel]using h,rfl⟩
 |.slice _,_,_,h=>⟨_,[],(List.append_nil _).symm,by simpa only[L.Rel]using h,rfl⟩
 |.clip _,_,_,h=>⟨_,[],(List.append_nil _).symm,by simpa only[L.Rel]using h,rfl⟩
def zYu:(t':Ty)->t'.den->(t:Ty)->Option t.den
 |.clip a,x,.slice b=>if h:a=b then some (h ▸ x)else none
 |_,_,_=>none
theorem yHn{w:World}{N:Nat->Nat->Prop}{t' t:Ty}{x:t'.den}{y:t.den}{cs:List Value}(h:zYu t' x t=some y)(hr:t'.Rel w N x cs):t.Rel w N y cs:=by
 unfold zYu at h;split at h
 ·split at h
  ·rename_i e;subst e;obtain rfl:=Option.some.inj h;obtain⟨v,e,h,_⟩:=hr;exact⟨v,e,h⟩
  ·cases h
 ·cases h
def L.asT(t:Ty):L->Option t.den
 |.val t' x=>if h:t'=t then some (h ▸ x)else zYu t' x t
 |.bJ=>match t with
  |.slice _=>some []
  |_=>none
 |.clo f []=>match t with
  |.opq=>some (.func (.func f) #[] #[])
  |_=>none
 |_=>none
theorem L.zJt{β:Nat->Pl}{w:World}{N:Nat->Nat->Prop}{t:Ty}{l:L}{x:t.den}{cs:List Value}(h:l.asT t=some x)(hr:l.Rel β w N cs):t.Rel w N x cs:=by
 cases l with
 |val t' y =>
  simp only[L.asT]at h;split at h
  ·rename_i e;subst e;simp only[aA]at h;subst h;simpa only[L.Rel]using hr
  ·simp only[L.Rel]at hr;exact yHn h hr
 |bJ =>
  simp only[L.Rel]at hr;subst hr;cases t with
  |slice a =>
   simp only[L.asT,aA]at h;exact⟨_,rfl,.inl ⟨rfl,h.symm⟩⟩
  |_=>simp[L.asT]at h
 |clo f caps =>
  cases caps with
  |cons _ _=>simp[L.asT]at h
  |nil =>
   simp only[L.Rel]at hr;obtain⟨us,rfl,hu⟩:=hr;simp only[L.eD]at hu;subst hu;cases t with
   |opq =>
    simp only[L.asT,aA]at h;subst h;exact⟨rfl,rfl⟩
   |_=>simp[L.asT]at h
 |_=>simp[L.asT]at h
def dS:(t:Ty)->List L->Option (t.den × List L)
 |.unit,ls=>some ((),ls)
 |.pair a b,ls =>
  match dS a ls with
  |some (x,ls)=>
   match dS b ls with
   |some (y,ls)=>some ((x,y),ls)
   |none=>none
  |none=>none
 |.bool,l::ls=>(l.asT .bool).map (·,ls)
 |.int k,l::ls=>(l.asT (.int k)).map (·,ls)
 |.str,l::ls=>(l.asT .str).map (·,ls)
 |.err,l::ls=>(l.asT .err).map (·,ls)
 |.opq,l::ls=>(l.asT .opq).map (·,ls)
 |.arr n a,l::ls=>(l.asT (.arr n a)).map (·,ls)
 |.slice a,l::ls=>(l.asT (.slice a)).map (·,ls)
 |.clip a,l::ls=>(l.asT (.clip a)).map (·,ls)
 |_,[]=>none
theorem rZ{β:Nat->Pl}{w:World}{N:Nat->Nat->Prop}{t:Ty}{l:L}{ls ls':List L}{x:t.den}{cs:List Value}(h:(l.asT t).map (·,ls)=some (x,ls'))(hr:aG β w N (l::ls) cs):∃ c1 c2,cs=c1++c2/\t.Rel w N x c1/\aG β w N ls' c2:=by
 obtain⟨c1,c2,e,h1,h2⟩:=hr;cases ha:l.asT t with
 |none=>rw[ha]at h;cases h
 |some y =>
  rw[ha]at h;simp only[Option.map_some,aA,aB]at h;obtain⟨rfl,rfl⟩:=h;exact⟨c1,c2,e,L.zJt ha h1,h2⟩
theorem uS{β:Nat->Pl}{w:World}{N:Nat->Nat->Prop}:∀ {t:Ty}{ls ls':List L}{x:t.den}{cs:List Value},dS t ls=some (x,ls')->aG β w N ls cs ->
 ∃ c1 c2,cs=c1++c2/\t.Rel w N x c1/\aG β w N ls' c2
 |.unit,_,_,_,cs,h,hr=>by
  simp only[dS,aA,aB]at h;obtain⟨_,rfl⟩:=h;exact⟨[],cs,rfl,rfl,hr⟩
 |.pair a b,ls,ls',x,cs,h,hr=>by
  simp only[dS]at h;split at h
  ·rename_i y l1 h1;split at h
   ·rename_i z l2 h2;simp only[aA,aB]at h;obtain⟨rfl,rfl⟩:=h;obtain⟨c1,c2,e1,r1,s1⟩:=uS (t:=a) h1 hr;obtain⟨d1,d2,e2,r2,s2⟩:=uS (t:=b) h2 s1;exact⟨c1++d1,d2,by rw[e1,e2,List.append_assoc],⟨c1,d1,rfl,r1,r2⟩,s2⟩
   ·cases h
  ·cases h
 |.bool,l::ls,_,_,_,h,hr=>by simp only[dS]at h;exact rZ h hr
 |.int k,l::ls,_,_,_,h,hr=>by simp only[dS]at h;exact rZ h hr
 |.str,l::ls,_,_,_,h,hr=>by simp only[dS]at h;exact rZ h hr
 |.err,l::ls,_,_,_,h,hr=>by simp only[dS]at h;exact rZ h hr
 |.opq,l::ls,_,_,_,h,hr=>by simp only[dS]at h;exact rZ h hr
 |.arr n a,l::ls,_,_,_,h,hr=>by simp only[dS]at h;exact rZ h hr
 |.slice a,l::ls,_,_,_,h,hr=>by simp only[dS]at h;exact rZ h hr
 |.clip a,l::ls,_,_,_,h,hr=>by simp only[dS]at h;exact rZ h hr
 |.bool,[],_,_,_,h,_=>by simp[dS]at h
 |.int k,[],_,_,_,h,_=>by simp[dS]at h
 |.str,[],_,_,_,h,_=>by simp[dS]at h
 |.err,[],_,_,_,h,_=>by simp[dS]at h
 |.opq,[],_,_,_,h,_=>by simp[dS]at h
 |.arr n a,[],_,_,_,h,_=>by simp[dS]at h
 |.slice a,[],_,_,_,h,_=>by simp[dS]at h
 |.clip a,[],_,_,_,h,_=>by simp[dS]at h
end Go.Dec
namespace Go.Dec
theorem aG.single{β:Nat->Pl}{w:World}{N:Nat->Nat->Prop}{l:L}{c:Value}(h:l.Rel β w N [c]):aG β w N [l] [c]:=⟨[c],[],rfl,h,rfl⟩
def zBb:Value->L | .bool b => .val .bool b | .int k n => .val (.int k) n | .string s => .val .str s.data.toList | .pointer none => .lF | .slice none 0 0 => .bJ | .nilFunc => .val .opq .nilFunc | .map none => .val .opq (.map none) | .nilIface => .val .err false | .iface t v => .val .opq (.iface t v) | _ => .bad 1
theorem zOs{β:Nat->Pl}{w:World}{N:Nat->Nat->Prop}(v:Value)(h:v.oneCell'=true):(zBb v).Rel β w N [v]:=by
 unfold zBb;split<;>simp only[L.Rel,Ty.Rel]
 case h_6=>exact⟨trivial,rfl⟩
 case h_7=>exact⟨trivial,rfl⟩
 case h_8=>exact⟨_,rfl,.inr ⟨trivial,rfl⟩⟩
 case h_9=>exact⟨trivial,rfl⟩
 case h_10=>exact⟨rfl,by intro c hc;simp at hc;subst hc;exact h⟩
def ovl(σ:St):Operand->V
 |.tmp t=>σ.r.getD t .bY
 |.const v=>match v with
  |.agg _|.tuple _=>.bY
  |v=>.one (zBb v)
 |.func f=>.one (.clo f [])
 |.global _=>.bY
theorem aY{C:Ctx}{β:Nat->Pl}{σ:St}{a:Act}{w:World}(h:Sim C β σ a w)(x:Operand):(ovl σ x).Rel β w (C.N β σ.h) (a.eval x):=by
 cases x with
 |tmp t =>
  simp only[ovl,Act.eval,List.getD_eq_getElem?_getD];cases ht:σ.r[t]? with
  |none=>simp[V.Rel]
  |some v=>simpa using h.reg t v ht
 |const v =>
  simp only[ovl,Act.eval];split
  ·trivial
  ·trivial
  ·rename_i h1 h2;exact zOs _ (by cases v<;>first|rfl|exact absurd rfl (h1 _)|exact absurd rfl (h2 _))
 |func f=>simp only[ovl,Act.eval,V.Rel,L.Rel];exact⟨[],rfl,by simp only[L.eD]⟩
 |global g=>trivial
def gG(k:IntKind)(op:BinOp)(x y:Int):Int :=
 let a:=BitVec.ofInt k.bits x
 let b:=BitVec.ofInt k.bits y
 match op with
 |.and=>k.wrap (a &&& b).toNat
 |.or=>k.wrap (a ||| b).toNat
 |.xor=>k.wrap (a ^^^ b).toNat
 |.andNot=>k.wrap (a &&& ~~~b).toNat
 |_=>0
def zGm (k:IntKind) (x y:Int):Int:=k.wrap (x * 2 ^ (min y.toNat k.bits))
def Ca (k:IntKind) (x y:Int):Int:=x.fdiv (2 ^ (min y.toNat k.bits))
def qK:Nat:=4611686018427387904
def yPk(op:BinOp)(k:IntKind)(a b:Int):Option (Bool × L):=
 match op with
 |.add=>some (true,.val (.int k) (k.wrap (a+b)))
 |.sub=>some (true,.val (.int k) (k.wrap (a-b)))
 |.mul=>some (true,.val (.int k) (k.wrap (a*b)))
 |.quo=>some (!decide (b=0),.val (.int k) (k.wrap (a.tdiv b)))
 |.rem=>some (!decide (b=0),.val (.int k) (a.tmod b))
 |.and=>some (true,.val (.int k) (gG k .and a b))
 |.or=>some (true,.val (.int k) (gG k .or a b))
 |.xor=>some (true,.val (.int k) (gG k .xor a b))
 |.andNot=>some (true,.val (.int k) (gG k .andNot a b))
 |.eql=>some (true,.val .bool (a==b))
 |.neq=>some (true,.val .bool (a != b))
 |.lss=>some (true,.val .bool (decide (a<b)))
 |.leq=>some (true,.val .bool (decide (a<=b)))
 |.gtr=>some (true,.val .bool (decide (a>b)))
 |.geq=>some (true,.val .bool (decide (a≥b)))
 |_=>none
def zYv(op:BinOp)(k:IntKind)(a b:Int):Option (Bool × L):=
 match op with
 |.shl=>some (decide (0<=b),.val (.int k) (zGm k a b))
 |.shr=>some (decide (0<=b),.val (.int k) (Ca k a b))
 |_=>none
def yPl(op:BinOp)(a b:List UInt8):Option (Bool × L):=
 match op with
 |.add=>some (decide (a.length+b.length<=qK),.val .str (a++b))
 |.eql=>some (true,.val .bool (a==b))
 |.neq=>some (true,.val .bool (!(a==b)))
 |.lss=>some (true,.val .bool (Op.bytesLess a b))
 |.leq=>some (true,.val .bool (Op.bytesLess a b||a==b))
 |.gtr=>some (true,.val .bool (!(Op.bytesLess a b||a==b)))
 |.geq=>some (true,.val .bool (!Op.bytesLess a b))
 |_=>none
def zXs(op:BinOp)(a b:Bool):Option (Bool × L):=
 match op with
 |.eql=>some (true,.val .bool (a==b))
 |.neq=>some (true,.val .bool (!(a==b)))
 |_=>none
def zSi:BinOp->Bool | .shl | .shr=>true | _=>false
def bin(op:BinOp)(x y:L):Option (Bool × L):=
 match x,y with
 |.val (.int k) a,.val (.int k') b=>if zSi op then zYv op k a b else if k=k' then yPk op k a b else none
 |.val .str a,.val .str b=>yPl op a b
 |.val .bool a,.val .bool b=>zXs op a b
 |_,_=>none
theorem toList_mk(l:List UInt8):(ByteArray.mk l.toArray).toList=l:=by
 rw[ByteArray.toList_eq]
theorem size_mk(l:List UInt8):(ByteArray.mk l.toArray).size=l.length:=by
 simp[ByteArray.size]
theorem yMb(a b:List UInt8):(ByteArray.mk a.toArray)++(ByteArray.mk b.toArray)=ByteArray.mk (a++b).toArray:=by
 apply ByteArray.ext;simp
section run
variable {P:Program}
variable {β:Nat->Pl}
variable {w:World}
variable {N:Nat->Nat->Prop}
theorem yPm {op : BinOp} {k : IntKind} {a b : Int} {l : L} (xt : TypeId) (hs : zSi op = false) (h : yPk op k a b = some (true, l)) :
    ∃ v, (binOp op xt (.int k a) (.int k b)).run P w = .ok v w ∧ l.Rel β w N [v] := by
  cases op <;> simp only [yPk, aA, aB, reduceCtorEq, zSi] at h hs <;> (try cases hs) <;> obtain ⟨h0, rfl⟩ := h <;>
    simp only [binOp, ne_eq, not_true_eq_false, if_false, Op.intArith, Op.intBits, Op.intCmp, Op.intDiv, Sem.run_pure] <;> first
    | exact ⟨_, rfl, by simp only [L.Rel, Ty.Rel, gG]⟩
    | (have hb : ¬ b = 0 := by simpa using h0
       simp only [hb, if_false, Sem.run_pure];exact ⟨_, rfl, by simp only [L.Rel, Ty.Rel]⟩)
theorem yHo {op : BinOp} {k k' : IntKind} {a b : Int} {l : L} (xt : TypeId) (h : zYv op k a b = some (true, l)) :
    ∃ v, (binOp op xt (.int k a) (.int k' b)).run P w = .ok v w ∧ l.Rel β w N [v] := by
  cases op <;> simp only [zYv, aA, aB, reduceCtorEq] at h <;> obtain ⟨h0, rfl⟩ := h <;>
    (have hb : ¬ b < 0 := by have := of_decide_eq_true h0; omega
     simp only [binOp, Op.shift, hb, if_false, Sem.run_pure];exact ⟨_, rfl, by simp only [L.Rel, Ty.Rel, zGm, Ca]⟩)
theorem yPn {op : BinOp} {a b : List UInt8} {l : L} (xt : TypeId) (h : yPl op a b = some (true, l)) :
    ∃ v, (binOp op xt (.string ⟨a.toArray⟩) (.string ⟨b.toArray⟩)).run P w = .ok v w ∧ l.Rel β w N [v] := by
  cases op <;> simp only [yPl, aA, aB, reduceCtorEq] at h <;> obtain ⟨h0, rfl⟩ := h <;>
    simp only [binOp, Op.stringOp, toList_mk, size_mk, yMb, Sem.run_pure] <;> first
    | exact ⟨_, rfl, by simp only [L.Rel, Ty.Rel]⟩
    | (have hb : ¬ (((a.length + b.length : Nat) : Int) > IntKind.i64.max) := by
         have := of_decide_eq_true h0;simp only [qK] at this;simp only [IntKind.max, IntKind.signed, IntKind.bits];omega
       simp only [hb, if_false, Sem.run_pure];exact ⟨_, rfl, by simp only [L.Rel, Ty.Rel]⟩)
theorem yMc {op : BinOp} {a b : Bool} {l : L} (xt : TypeId) (ht : P.underlying xt = some .bool) (h : zXs op a b = some (true, l)) :
    ∃ v, (binOp op xt (.bool a) (.bool b)).run P w = .ok v w ∧ l.Rel β w N [v] := by
  cases op <;> simp only [zXs, aA, aB, reduceCtorEq] at h <;> obtain ⟨h0, rfl⟩ := h <;>
    (simp only [binOp, Op.equal, Op.maxDepth, Sem.run_bind, run_equalIn_bool' w _ xt a b ht, Result.andThen_ok, Sem.run_pure]
     exact ⟨_, rfl, by simp only [L.Rel, Ty.Rel]⟩)
end run
end Go.Dec
namespace Go.Dec
def kL:List L->Nat->Option (List L × List L)
 |ls,0=>some ([],ls)
 |[],_+1=>none
 |l::r,n+1=>if l.size<=n+1 then(kL r (n+1-l.size)).map λp=>(l::p.1,p.2)else none
section split
variable {β:Nat->Pl}
variable {w:World}
variable {N:Nat->Nat->Prop}
theorem xR:∀ {ls:List L}{n:Nat}{a b:List L}{cs:List Value},kL ls n=some (a,b)->aG β w N ls cs ->
 aG β w N a (cs.take n)/\aG β w N b (cs.drop n)/\n<=cs.length
 |ls,0,a,b,cs,h,hr=>by
  have:kL ls 0=some ([],ls):=by cases ls<;>rfl
  rw[this]at h;simp only[aA,aB]at h;obtain⟨rfl,rfl⟩:=h;simpa [aG]using hr
 |[],_+1,_,_,_,h,_=>by simp[kL]at h
 |l::r,n+1,a,b,cs,h,hr=>by
  simp only[kL]at h;split at h
  ·rename_i hle;obtain⟨c1,c2,rfl,h1,h2⟩:=hr;cases hs:kL r (n+1-l.size)with
   |none=>rw[hs]at h;cases h
   |some p =>
    rw[hs]at h;simp only[Option.map_some,aA,aB]at h;obtain⟨rfl,rfl⟩:=h;obtain⟨g1,g2,g3⟩:=xR (a:=p.1) (b:=p.2) hs h2;have hl:=h1.length;refine⟨?_,?_,?_⟩
    ·rw[List.take_append,hl,List.take_of_length_le (by omega)];exact⟨c1,_,rfl,h1,g1⟩
    ·rw[List.drop_append,hl,List.drop_of_length_le (by omega),List.nil_append];exact g2
    ·rw[List.length_append];omega
  ·cases h
def Ba(ls:List L)(off size:Nat):Option (List L):=
 match kL ls off with
 |some (_,b)=>(kL b size).map (·.1)
 |none=>none
theorem wX{ls c:List L}{off size:Nat}{cs:List Value}(h:Ba ls off size=some c)(hr:aG β w N ls cs):aG β w N c ((cs.drop off).take size)/\off+size<=cs.length:=by
 unfold Ba at h;split at h
 ·rename_i a b hs;cases ht:kL b size with
  |none=>rw[ht]at h;cases h
  |some p =>
   rw[ht]at h;simp only[Option.map_some,aA]at h;subst h;obtain⟨_,g2,g3⟩:=xR hs hr;obtain⟨k1,_,k3⟩:=xR (a:=p.1) (b:=p.2) ht g2;rw[List.length_drop]at k3;exact⟨k1,by omega⟩
 ·cases h
def Kr(ls:List L)(off:Nat)(new:List L):Option (List L):=
 match kL ls off with
 |some (a,b)=>(kL b (sizes new)).map λp=>a++(new++p.2)
 |none=>none
theorem Yn{ls new ls':List L}{off:Nat}{cs ds:List Value}(h:Kr ls off new=some ls')(hr:aG β w N ls cs)(hd:aG β w N new ds):aG β w N ls' (cs.take off++(ds++cs.drop (off+ds.length)))/\off+ds.length<=cs.length:=by
 unfold Kr at h;split at h
 ·rename_i a b hs;cases ht:kL b (sizes new)with
  |none=>rw[ht]at h;cases h
  |some p =>
   rw[ht]at h;simp only[Option.map_some,aA]at h;subst h;obtain⟨g1,g2,g3⟩:=xR hs hr;obtain⟨_,k2,k3⟩:=xR (a:=p.1) (b:=p.2) ht g2;have hl:=hd.length;rw[List.length_drop]at k3;rw[List.drop_drop]at k2;refine⟨g1.append (hd.append ?_),by omega⟩;rw[hl];exact k2
 ·cases h
end split
inductive TK where
 |bool|int (k:IntKind)|str|slice (e:TypeId)|arr (n:Nat) (e:TypeId)|struct (fs:List (Nat × TypeId))|ptr (e:TypeId)|func|iface (empty:Bool)|map (k e:TypeId)|other
def TK.of:TypeDesc->TK | .bool => .bool | .int k => .int k | .string => .str | .slice e => .slice e | .array n e => .arr n e | .struct fs => .struct (fs.toList.map fun f=>(f.offset,f.type)) | .pointer e => .ptr e | .func .. => .func | .interface ms => .iface ms.isEmpty | .map k e => .map k e | _ => .other
def TK.isAgg:TK->Bool | .arr .. | .struct _=>true | _=>false
structure TI where
 k:TK
 size:Nat
 bytes:Nat
 zls:List L
 ty:Option Ty
 eqs:Bool
def jI(P:Program):Nat->TypeId->Option Ty
 |0,_=>none
 |n+1,t =>
  match P.underlying t with
  |some .bool=>some .bool
  |some (.int k)=>some (.int k)
  |some .string=>some .str
  |some (.slice e)=>(jI P n e).map .slice
  |some (.array k e)=>(jI P n e).map (.arr k)
  |some (.struct fs)=>fs.toList.foldr (λf r=>match jI P n f.type,r with|some a,some b=>some (.pair a b)|_,_=>none) (some .unit)
  |some (.interface ms)=>some (if ms.isEmpty then .opq else .err)
  |some (.func ..)=>some .opq
  |_=>none
def Cw(P:Program):Nat->TypeId->List Value->Option (List L × List Value)
 |0,_,_=>none
 |n+1,t,cs =>
  match P.underlying t with
  |some (.struct fs)=>fs.toList.foldl (λr f=>match r with|some (ls,cs)=>(Cw P n f.type cs).map λp=>(ls++p.1,p.2)|none=>none) (some ([],cs))
  |some (.array k e)=>
   match jI P n e,(List.range k).foldl (λr _=>match r with|some (ls,cs)=>(Cw P n e cs).map λp=>(ls++[p.1],p.2)|none=>none) (some ([],cs))with
   |some te,some (lss,cs)=>
    match lss.foldr (λls r=>match dS te ls,r with|some (x,[]),some xs=>some (x::xs)|_,_=>none) (some ([]:List te.den))with
    |some xs=>if xs.length=k then some ([.val (.arr k te) xs],cs)else none
    |none=>none
   |_,_=>none
  |some (.slice _)=>
   match cs with
   |.slice none 0 0::cs=>some ([.bJ],cs)
   |_=>none
  |_=>match cs with
   |c::cs=>if c.oneCell' then some ([zBb c],cs)else none
   |[]=>none
def zOK (ls:List L) (cs:List Value):Prop := ∀ (β:Nat->Pl) (w:World) (N:Nat->Nat->Prop),aG β w N ls cs
theorem zOK.append{a b:List L}{c d:List Value}(h:zOK a c)(h':zOK b d):zOK (a++b) (c++d):=λβ w N=>(h β w N).append (h' β w N)
theorem zGn{P:Program}{n:Nat}(ih:∀ t cs ls cs',Cw P n t cs=some (ls,cs')->∃ c1,cs=c1++cs'/\zOK ls c1):∀ (fs:List Field) (ls0:List L) (cs0 ca:List Value) (ls:List L) (cs':List Value),
 zOK ls0 ca->fs.foldl (λr f=>match r with|some (ls,cs)=>(Cw P n f.type cs).map λp=>(ls++p.1,p.2)|none=>none) (some (ls0,cs0))=some (ls,cs') ->
 ∃ c1,cs0=c1++cs'/\zOK ls (ca++c1)
 |[],ls0,cs0,ca,ls,cs',h0,h=>by
  simp only[List.foldl_nil,aA,aB]at h;obtain⟨rfl,rfl⟩:=h;exact⟨[],rfl,by simpa using h0⟩
 |f::fs,ls0,cs0,ca,ls,cs',h0,h=>by
  simp only[List.foldl_cons]at h;cases hz:Cw P n f.type cs0 with
  |none =>
   rw[hz]at h;simp only[Option.map_none]at h;have:∀ fs:List Field,fs.foldl (λ(r:Option (List L × List Value)) f=>match r with|some (ls,cs)=>(Cw P n f.type cs).map λp=>(ls++p.1,p.2)|none=>none) none=none:=by
    intro fs;induction fs with
    |nil=>rfl
    |cons f fs ih=>simpa using ih
   rw[this]at h;cases h
  |some p =>
   rw[hz]at h;simp only[Option.map_some]at h;obtain⟨c1,e,hz1⟩:=ih _ _ p.1 p.2 hz;obtain⟨c2,e2,hz2⟩:=zGn ih fs (ls0++p.1) p.2 (ca++c1) ls cs' (h0.append hz1) h;exact⟨c1++c2,by rw[e,e2,List.append_assoc],by rwa [List.append_assoc]at hz2⟩
theorem zUk{P:Program}{n:Nat}{e:TypeId}(ih:∀ t cs ls cs',Cw P n t cs=some (ls,cs')->∃ c1,cs=c1++cs'/\zOK ls c1):∀ (k:List Nat) (ls0:List (List L)) (cs0:List Value) (zYw:List (List Value)) (lss:List (List L)) (cs':List Value),
 bD zOK ls0 zYw->k.foldl (λr _=>match r with|some (ls,cs)=>(Cw P n e cs).map λp=>(ls++[p.1],p.2)|none=>none) (some (ls0,cs0))=some (lss,cs') ->
 ∃ css,cs0=css.flatten++cs'/\bD zOK lss (zYw++css)
 |[],ls0,cs0,zYw,lss,cs',h0,h=>by
  simp only[List.foldl_nil,aA,aB]at h;obtain⟨rfl,rfl⟩:=h;exact⟨[],rfl,by simpa using h0⟩
 |k0::k,ls0,cs0,zYw,lss,cs',h0,h=>by
  simp only[List.foldl_cons]at h;cases hz:Cw P n e cs0 with
  |none =>
   rw[hz]at h;simp only[Option.map_none]at h;have:∀ k:List Nat,k.foldl (λ(r:Option (List (List L) × List Value)) _=>match r with|some (ls,cs)=>(Cw P n e cs).map λp=>(ls++[p.1],p.2)|none=>none) none=none:=by
    intro k;induction k with
    |nil=>rfl
    |cons f fs ih=>simpa using ih
   rw[this]at h;cases h
  |some p =>
   rw[hz]at h;simp only[Option.map_some]at h;obtain⟨c1,e1,hz1⟩:=ih _ _ p.1 p.2 hz;obtain⟨css,e2,hz2⟩:=zUk ih k (ls0++[p.1]) p.2 (zYw++[c1]) lss cs' (h0.append ⟨hz1,trivial⟩) h;exact⟨c1::css,by rw[e1,e2];simp,by simpa using hz2⟩
theorem zLh{te:Ty}:∀ (lss:List (List L)) (css:List (List Value)) (xs:List te.den),bD zOK lss css ->
 lss.foldr (λls r=>match dS te ls,r with|some (x,[]),some xs=>some (x::xs)|_,_=>none) (some ([]:List te.den))=some xs ->
 ∀ (w:World) (N:Nat->Nat->Prop),bD (λx c=>te.Rel w N x c) xs css
 |[],[],xs,_,h,w,N=>by simp at h;subst h;trivial
 |ls::lss,cs::css,xs,hz,h,w,N=>by
  simp only[List.foldr_cons]at h;split at h
  ·rename_i _ x0 xs0 hi hf;simp only[aA]at h;subst h;obtain⟨c1,c2,e,h1,h2⟩:=uS (β:=λ_=>⟨false,false,0,none,0,0,0,[]⟩) (w:=w) (N:=N) hi (hz.1 _ _ _);simp only[aG]at h2;subst h2;rw[List.append_nil]at e;subst e;exact⟨h1,zLh lss css xs0 hz.2 hf w N⟩
  ·cases h
theorem zMo{P:Program}:∀ (n:Nat) (t:TypeId) (cs:List Value) (ls:List L) (cs':List Value),Cw P n t cs=some (ls,cs')->∃ c1,cs=c1++cs'/\zOK ls c1
 |0,_,_,_,_,h=>by simp[Cw]at h
 |n+1,t,cs,ls,cs',h=>by
  simp only[Cw]at h;split at h
  ·rename_i fs hu;obtain⟨c1,e,hz⟩:=zGn (zMo n) fs.toList [] cs [] ls cs' (λ_ _ _=>rfl) h;exact⟨c1,e,by simpa using hz⟩
  ·rename_i k e hu;split at h
   ·rename_i _ te lss cs1 hte hf;split at h
    ·rename_i xs hxs;split at h
     ·rename_i hlen;simp only[aA,aB]at h;obtain⟨rfl,rfl⟩:=h;obtain⟨css,e1,hz⟩:=zUk (zMo n) (List.range k) [] cs [] lss cs1 trivial hf;refine⟨css.flatten,e1,λβ w N=>⟨_,[],(List.append_nil _).symm,?_,rfl⟩⟩;simp only[L.Rel,Ty.Rel];exact⟨hlen,css,rfl,zLh lss css xs (by simpa using hz) hxs w N⟩
     ·cases h
    ·cases h
   ·cases h
  ·split at h
   ·simp only[aA,aB]at h;obtain⟨rfl,rfl⟩:=h;exact⟨[.slice none 0 0],rfl,λβ w N=>aG.single (by simp only[L.Rel])⟩
   ·cases h
  ·split at h
   ·rename_i c cs1;split at h
    ·rename_i ho;simp only[aA,aB]at h;obtain⟨rfl,rfl⟩:=h;exact⟨[c],rfl,λβ w N=>aG.single (zOs c ho)⟩
    ·cases h
   ·cases h
def eqF (P:Program) (g:TypeId->Bool) (h:TypeId->Option Ty):Nat->List Field->Bool
 |_,[]=>true
 |off,f::fs=>f.offset==off&&!(f.name == "_")&&g f.type&&(match h f.type with|some a=>a.size==P.cellsOf f.type|none=>false)&&eqF P g h (off+P.cellsOf f.type) fs
def Yo(P:Program):Nat->TypeId->Bool
 |0,_=>false
 |n+1,t =>
  match P.underlying t with
  |some .bool|some (.int _)|some .string=>true
  |some (.struct fs)=>!P.stoodInHeld t&&eqF P (Yo P n) (jI P n) 0 fs.toList
  |some (.array _ e)=>Yo P n e&&(match jI P n e with|some a=>a.size==P.cellsOf e|none=>false)
  |_=>false
def Qk:Value->Bool | .agg _=>true | _=>false
def yPo(P:Program)(t:TypeId):Option TI :=
 match P.info? t,P.underlying t with
 |some i,some d =>
  match i.zero with
  |some z =>
   match Cw P 12 t z.cells.toList with
   |some (ls,[])=>
    if(TK.of d).isAgg==Qk z&&z.cells.size==i.size then
     some { k:=TK.of d,size:=i.size,bytes:=i.bytes,zls:=ls,ty:=jI P 12 t,eqs:=(TK.of d).isAgg&&(!P.eqGuardType P.depth t&&Yo P 12 t) }
    else none
   |_=>none
  |none=>none
 |_,_=>none
structure qZ (P:Program) (t:TypeId) (ti:TI):Prop where
 i:∃ (i:TypeInfo) (z:Value),P.info? t=some i/\i.size=ti.size/\i.bytes=ti.bytes/\i.zero=some z/\zOK ti.zls z.cells.toList/\z.cells.size=i.size/\ti.k.isAgg=Qk z
 und:∃ d,P.underlying t=some d/\TK.of d=ti.k
 ty:jI P 12 t=ti.ty
 eqs:ti.eqs=true->P.eqGuardType P.depth t=false/\Yo P 12 t=true
theorem yVo{P:Program}{t:TypeId}{ti:TI}(h:yPo P t=some ti):qZ P t ti:=by
 unfold yPo at h;split at h
 ·rename_i i d hi hd;split at h
  ·rename_i z hz;split at h
   ·rename_i ls hls;split at h
    ·rename_i hc;simp only[aA]at h;subst h;rw[aD]at hc;obtain⟨c1,e,hok⟩:=zMo _ _ _ _ _ hls;rw[List.append_nil]at e;refine⟨⟨i,z,hi,rfl,rfl,hz,?_,by simpa using hc.2,by simpa using hc.1⟩,⟨d,hd,rfl⟩,rfl,λh=>by simp at h;exact h.2⟩;rw[e];exact hok
    ·cases h
   ·cases h
  ·cases h
 ·cases h
abbrev Tab:=List (TypeId × TI)
def Tab.get:Tab->TypeId->Option TI
 |[],_=>none
 |p::r,t=>if Nat.beq p.1 t then some p.2 else Tab.get r t
def bM (P:Program) (T:Tab):Prop := ∀ t ti,T.get t = some ti->qZ P t ti
theorem zDa{P:Program}:∀ {T:Tab},(T.map λp=>yPo P p.1)=T.map (λp=>some p.2)->bM P T
 |[],_,_,_,h=>by simp[Tab.get]at h
 |p::r,h,t,ti,ht=>by
  simp only[List.map_cons,aJ]at h;simp only[Tab.get]at ht;split at ht
  ·rename_i hb;have:p.1=t:=aK hb;subst this;simp only[aA]at ht;subst ht;exact yVo h.1
  ·exact zDa h.2 t ti ht
end Go.Dec
