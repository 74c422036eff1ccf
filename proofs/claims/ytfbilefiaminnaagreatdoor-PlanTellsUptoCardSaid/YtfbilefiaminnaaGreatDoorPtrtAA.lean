import Derived.Laws.AppendOwn
import Derived.Laws.StructEq
import Derived.Laws.Slices
open Go.Sem renaming run_pure->jI,run_bind->jJ
open Go.Result renaming andThen_ok->kQ
open Go.Value renaming oneCell'->kR
open Option renaming map_some->kU,map_none->zU
open List renaming append_nil->vE,append_assoc->wE,getD_eq_getElem?_getD->wG,getElem_mem->wU,getElem?_eq_getElem->wW,flatten_cons->xB,length_append->xG,length_cons->xI,length_drop->yV,getElem?_append_right->yZ,take_of_length_le->zH,drop_drop->zT,length_take->qAb,take_take->qAd,replicate->qAf,mem_append_right->qAh,getElem?_cons_zero->qAi,take_append->qAk,drop_take->qAl,mem_append->qAp,mem_append_left->qAq,range->qAr,foldl_cons->qAs,mem_of_mem_take->qAt,getElem?_eq_none->qAu,getElem?_set_self->qAv,getElem?_set_ne->qAw,length_set->qAx,take->qAy,take_left'->qAz,take_left->qBa,size_toArray->qBb
open Nat renaming beq->vF,lt_of_lt_of_le->wD,succ_mul->wF,mul_le_mul_right->wH,zero_add->yY,add_mul->zB,add_assoc->zD,le_trans->zG,add_zero->qAa,min_eq_left->qAe,lt_of_succ_lt_succ->qAg,zero_le->qAm,le_add_right->qAn,add_sub_cancel_left->qAo
open Go.Instr renaming sureAddr->vG,sliceAt->wB
open ByteArray renaming mk->wC
open Array renaming length_toList->qAc
namespace Go.Dec
def kbm:Nat->Nat->List Bool
|0,_=>[]
|n+1,m=>(m%2==1)::kbm n (m/2)
end Go.Dec

theorem aA.{u}{α:Type u}(a b:α):(some a=some b)=(a=b):=Option.some.injEq a b
theorem aC.{u,v}{α:Type u}{β:Type v}(a:α)(b:β)(c:α)(d:β):((a,b)=(c,d))=(a=c/\b=d):=Prod.mk.injEq a b c d
theorem aP{n m:Nat}(h:vF n m=true):n=m:=Nat.eq_of_beq_eq_true h
theorem aD(a b:Bool):((a&&b)=true)=(a=true/\b=true):=Bool.and_eq_true a b
theorem aL.{u}{α:Type u}(a:α)(l:List α)(b:α)(m:List α):(a::l=b::m)=(a=b/\l=m):=List.cons.injEq a l b m
theorem aS(n:Nat):n<=n:=Nat.le_refl n
theorem bX{n m:Nat}(h:Nat.ble n m=true):n<=m:=Nat.le_of_ble_eq_true h
theorem jF(a b:Nat):a<b\/a≥b:=Nat.lt_or_ge a b
theorem bK.{u}{α:Type u}{l:List α}{i:Nat}{a:α}:l[i]?=some a<->∃ h:i<l.length,l[i]=a:=List.getElem?_eq_some_iff
theorem fU.{u}{α:Type u}{l m:List α}{n:Nat}(h:n<l.length):(l++m)[n]?=l[n]?:=List.getElem?_append_left h
namespace Go.Dec
inductive Ty where
 |unit|bool|int (k:IntKind)|str|err|opq
 |pair (a b:Ty)|arr (n:Nat) (a:Ty)|slice (a:Ty)
 |clip (a:Ty)
deriving DecidableEq
@[reducible] def Ty.den:Ty->Type
 |.unit=>Unit
 |.bool=>Bool
 |.int _=>Int
 |.str=>List UInt8
 |.err=>Bool
 |.opq=>Value
 |.pair a b=>a.den × b.den
 |.arr _ a=>List a.den
 |.slice a=>List a.den
 |.clip a=>List a.den
def Ty.size:Ty->Nat | .unit=>0 | .pair a b=>a.size+b.size | .arr n a=>n*a.size | _=>1
def Ty.isAgg:Ty->Bool | .arr .. | .pair .. | .unit=>true | _=>false
def Ty.dflt:(t:Ty)->t.den | .unit=>() | .bool=>false | .int _=>(0:Int) | .str=>([]:List UInt8) | .err=>false | .opq=>Value.nilFunc | .pair a b=>(a.dflt,b.dflt) | .arr n a=>qAf n a.dflt | .slice _=>[] | .clip _=>[]
def bJ {α β:Type} (R:α->β->Prop):List α->List β->Prop | [],[]=>True | a :: x,b :: y=>R a b ∧ bJ R x y | _,_=>False
section all2
variable {α β:Type}{R S:α->β->Prop}
theorem bJ.length:∀ {x:List α}{y:List β},bJ R x y->x.length=y.length
 |[],[],_=>rfl
 |_::_,_::_,h=>congrArg (· + 1) (bJ.length h.2)
theorem bJ.mono(h:∀ a b,R a b->S a b):∀ {x:List α}{y:List β},bJ R x y->bJ S x y
 |[],[],_=>trivial
 |_::_,_::_,hx=>⟨h _ _ hx.1,bJ.mono h hx.2⟩
theorem bJ.get:∀ {x:List α}{y:List β}(_:bJ R x y) (i:Nat) (h:i<x.length) (h':i<y.length),R x[i] y[i]
 |_::_,_::_,hx,0,_,_=>hx.1
 |_::_,_::_,hx,i+1,h,h'=>bJ.get hx.2 i (qAg h) (qAg h')
theorem bJ.append:∀ {x:List α}{y:List β}{x':List α}{y':List β},bJ R x y->bJ R x' y'->bJ R (x++x') (y++y')
 |[],[],_,_,_,h=>h
 |_::_,_::_,_,_,h,h'=>⟨h.1,bJ.append h.2 h'⟩
theorem bJ.take:∀ {x:List α}{y:List β}(n:Nat),bJ R x y->bJ R (x.take n) (y.take n)
 |[],[],n,_=>by simp[bJ]
 |_::_,_::_,0,_=>trivial
 |_::_,_::_,n+1,h=>⟨h.1,bJ.take n h.2⟩
theorem bJ.drop:∀ {x:List α}{y:List β}(n:Nat),bJ R x y->bJ R (x.drop n) (y.drop n)
 |[],[],n,_=>by simp[bJ]
 |_::_,_::_,0,h=>h
 |_::_,_::_,n+1,h=>bJ.drop n h.2
theorem bJ.set:∀ {x:List α}{y:List β}(n:Nat) {a:α}{b:β},bJ R x y->R a b->bJ R (x.set n a) (y.set n b)
 |[],[],_,_,_,_,_=>trivial
 |_::_,_::_,0,_,_,h,h'=>⟨h',h.2⟩
 |_::_,_::_,n+1,_,_,h,h'=>⟨h.1,bJ.set n h.2 h'⟩
theorem bJ.mem_right:∀ {x:List α}{y:List β}(_:bJ R x y) (b:β),b∈y->∃ a∈x,R a b
 |[],[],_,_,h=>by cases h
 |_::_,_::_,h,_,.head _=>⟨_,.head _,h.1⟩
 |_::_,_::_,h,b,.tail _ hb=>let ⟨a,ha,hr⟩:=bJ.mem_right h.2 b hb;⟨a,.tail _ ha,hr⟩
theorem bJ.replicate{a:α}{b:β}(h:R a b):∀ n,bJ R (qAf n a) (qAf n b)
 |0=>trivial
 |n+1=>⟨h,bJ.replicate h n⟩
end all2
theorem cZ{α:Type}{n:Nat}:∀ (css:List (List α)),(∀ c∈css,c.length=n)->css.flatten.length=css.length*n
 |[],_=>by simp
 |c::css,h=>by
  simp only[xB,xG,xI];rw[h c (.head _),cZ css λc hc=>h c (.tail _ hc),wF,Nat.add_comm]
theorem Gv{α:Type}{n:Nat}:∀ (css:List (List α)),(∀ c∈css,c.length=n)->∀ i j (h:i<css.length),j<n->css.flatten[i*n+j]?=css[i][j]?
 |[],_,_,_,h,_=>by cases h
 |c::css,hc,0,j,_,hj=>by
  have h1:=hc c (.head _);simp[fU,h1,hj]
 |c::css,hc,i+1,j,h,hj=>by
  have h1:=hc c (.head _);have h2:=Gv css (λc hc'=>hc c (.tail _ hc')) i j (qAg h) hj;have h3:(i+1)*n+j=c.length+(i*n+j):=by rw[h1,wF];omega
  rw[xB,h3,yZ (qAn _ _),qAo,h2];rfl
theorem sJ{α:Type}{n:Nat}:∀ (css:List (List α)),(∀ c∈css,c.length=n)->∀ k,css.flatten.take (k*n)=(css.take k).flatten
 |[],_,k=>by simp
 |c::css,hc,0=>by simp
 |c::css,hc,k+1=>by
  have h1:=hc c (.head _);have h2:=sJ css (λc hc'=>hc c (.tail _ hc')) k;have h3:(k+1)*n=c.length+k*n:=by rw[h1,wF];omega
  rw[xB,h3,List.take_length_add_append,h2];rfl
theorem pF{α:Type}{n:Nat}:∀ (css:List (List α)),(∀ c∈css,c.length=n)->∀ k,css.flatten.drop (k*n)=(css.drop k).flatten
 |[],_,k=>by simp
 |c::css,hc,0=>by simp
 |c::css,hc,k+1=>by
  have h1:=hc c (.head _);have h2:=pF css (λc hc'=>hc c (.tail _ hc')) k;have h3:(k+1)*n=c.length+k*n:=by rw[h1,wF];omega
  rw[xB,h3,List.drop_length_add_append,h2];rfl
theorem zZy{i k n:Nat}(h:i<k):i*n+n<=k*n:=by
 have:=wH n (show i+1<=k from h)
 rwa [wF]at this
theorem yMz{a c k n:Nat}(h:c<=k)(h2:a<=c):a*n+(c-a)*n<=k*n:=by
 rw[<- zB];exact wH n (by omega)
def Cells (w:World) (b off:Nat) (cs:List Value):Prop := ∀ j c,cs[j]? = some c->w.cell? ⟨b,off+j,none⟩ = some c
theorem Cells.left{w:World}{b off:Nat}{c d:List Value}(h:Cells w b off (c++d)):Cells w b off c:=λj x hx=>h j x (by
 rw[fU (bK.1 hx).1];exact hx)
theorem Cells.right{w:World}{b off:Nat}{c d:List Value}(h:Cells w b off (c++d)):Cells w b (off+c.length) d:=λj x hx=>by
 have:=h (c.length+j) x (by rw[yZ (qAn _ _),qAo];exact hx)
 rwa [zD]
theorem Cells.append{w:World}{b off:Nat}{c d:List Value}(h1:Cells w b off c)(h2:Cells w b (off+c.length) d):Cells w b off (c++d):=λj x hx=>by
 by_cases hj:j<c.length
 ·exact h1 j x (by rwa [fU hj]at hx)
 ·rw[yZ (by omega)]at hx;have:=h2 (j-c.length) x hx
  rwa [show off+c.length+(j-c.length)=off+j by omega]at this
theorem Cells.nil{w:World}{b off:Nat}:Cells w b off []:=λj x hx=>by simp at hx
theorem Cells.drop{w:World}{b off:Nat}{c:List Value}(h:Cells w b off c)(n:Nat):Cells w b (off+n) (c.drop n):=λj x hx=>by
 rw[List.getElem?_drop]at hx;have:=h (n+j) x hx
 rwa [zD]
theorem Cells.take{w:World}{b off:Nat}{c:List Value}(h:Cells w b off c)(n:Nat):Cells w b off (c.take n):=λj x hx=>by
 rw[List.getElem?_take]at hx;split at hx
 ·exact h j x hx
 ·cases hx
def zNo {α:Type} (w:World) (N:Nat->Nat->Prop) (size:Nat) (R:α->List Value->Prop) (xs:List α) (v:Value):Prop :=(v = .slice none 0 0 ∧ xs = []) ∨ (∃ b off cap css,v = .slice (some ⟨b,off,none⟩) xs.length cap ∧ b<w.heap.size ∧ (∀ j,off<=j->j<off+xs.length*size -> ¬ N b j) ∧ xs.length<=cap ∧ cap<=maxLen ∧ bJ R xs css ∧ (∀ c ∈ css,c.length = size) ∧ Cells w b off css.flatten) ∨ ∃ a cap,v = .slice (some a) 0 cap ∧ xs = [] ∧ cap<=maxLen
def xIm (v:Value):Prop := ∃ p n,v = .slice p n n
def Ty.Rel(w:World)(N:Nat->Nat->Prop):(t:Ty)->t.den->List Value->Prop
 |.unit,_,cs=>cs=[]
 |.bool,b,cs=>cs=[.bool b]
 |.int k,n,cs=>cs=[.int k n]
 |.str,s,cs=>cs=[.string ⟨s.toArray⟩]
 |.err,b,cs=>∃ v,cs=[v]/\((b=true/\∃ t x,v=.iface t x)\/(b=false/\v=.nilIface))
 |.opq,v,cs=>cs=[v]/\v.oneCell'=true
 |.pair a b,x,cs=>∃ c1 c2,cs=c1++c2/\a.Rel w N x.1 c1/\b.Rel w N x.2 c2
 |.arr n a,xs,cs=>xs.length=n/\∃ css,cs=css.flatten/\bJ (λx c=>a.Rel w N x c) xs css
 |.slice a,xs,cs=>∃ v,cs=[v]/\zNo w N a.size (λx c=>a.Rel w N x c) xs v
 |.clip a,xs,cs=>∃ v,cs=[v]/\zNo w N a.size (λx c=>a.Rel w N x c) xs v/\xIm v
structure Keep (N:Nat->Nat->Prop) (w w':World):Prop where
 size:w.heap.size<=w'.heap.size
 block:∀ b,b<w.heap.size->(∀ j,¬ N b j)->w'.heap[b]?=w.heap[b]?
 place:∀ b j,b<w.heap.size->¬ N b j->∀ c,w.cell? ⟨b,j,none⟩=some c->w'.cell? ⟨b,j,none⟩=some c
theorem Keep.mZ{M:Nat->Prop}{N:Nat->Nat->Prop}{w w':World}(h1:w.heap.size<=w'.heap.size)(h2:∀ b,b<w.heap.size->¬ M b->w'.heap[b]?=w.heap[b]?)(h3:∀ b j,M b->N b j):Keep N w w' :=
 ⟨h1,λb hb hn=>h2 b hb λhm=>hn 0 (h3 b 0 hm),λb j hb hn c hc=>by
  have:=World.cell?_of_block (a:=⟨b,j,none⟩) (h2 b hb λhm=>hn (h3 b j hm));rw[this];exact hc⟩
theorem Keep.refl(N:Nat->Nat->Prop)(w:World):Keep N w w:=⟨aS _,λ_ _ _=>rfl,λ_ _ _ _ _ h=>h⟩
theorem Keep.trans{N:Nat->Nat->Prop}{a b c:World}(h:Keep N a b)(h':Keep N b c):Keep N a c :=
 ⟨zG h.size h'.size,λk hk hn=>(h'.block k (wD hk h.size) hn).trans (h.block k hk hn),λk j hk hn x hx=>h'.place k j (wD hk h.size) hn x (h.place k j hk hn x hx)⟩
theorem Keep.uJ{N M:Nat->Nat->Prop}{a b c:World}(h:Keep N a b)(h':Keep M b c)(hM:∀ k j,k<a.heap.size->M k j->N k j):Keep N a c :=
 ⟨zG h.size h'.size,λk hk hn=>(h'.block k (wD hk h.size) λj hm=>hn j (hM k j hk hm)).trans (h.block k hk hn),λk j hk hn x hx=>h'.place k j (wD hk h.size) (λhm=>hn (hM k j hk hm)) x (h.place k j hk hn x hx)⟩
theorem Keep.weaken{N N':Nat->Nat->Prop}{a b:World}(h:Keep N a b)(hn:∀ k j,N k j->N' k j):Keep N' a b :=
 ⟨h.size,λk hk hk'=>h.block k hk λj h=>hk' j (hn k j h),λk j hk hk'=>h.place k j hk λh=>hk' (hn k j h)⟩
theorem Keep.cells{N:Nat->Nat->Prop}{w w':World}(h:Keep N w w'){b off:Nat}{cs:List Value}(hb:b<w.heap.size)(hn:∀ j,off<=j->j<off+cs.length->¬ N b j)(hc:Cells w b off cs):Cells w' b off cs :=
 λj c hj=>h.place b (off+j) hb (hn _ (by omega) (by have:=(bK.1 hj).1;omega)) c (hc j c hj)
theorem zNo.mono{α:Type}{w w':World}{N N':Nat->Nat->Prop}{size:Nat}{R R':α->List Value->Prop}{xs:List α}{v:Value}(hk:Keep N w w')(hN:∀ b j,b<w.heap.size->N' b j->N b j)(hR:∀ x c,R x c->R' x c)(h:zNo w N size R xs v):zNo w' N' size R' xs v:=by
 rcases h with h|⟨b,off,cap,css,hv,hb,hn,hl,hm,hr,hs,hc⟩|h
 ·exact .inl h
 ·have hlen:css.flatten.length=xs.length*size:=by rw[cZ css hs,<- hr.length]
  exact .inr (.inl ⟨b,off,cap,css,hv,wD hb hk.size,λj h1 h2 h=>hn j h1 h2 (hN b j hb h),hl,hm,hr.mono hR,hs,hk.cells hb (λj h1 h2=>hn j h1 (by rw[<- hlen];exact h2)) hc⟩)
 ·exact .inr (.inr h)
theorem Ty.Rel.mono{w w':World}{N N':Nat->Nat->Prop}(hk:Keep N w w')(hN:∀ b j,b<w.heap.size->N' b j->N b j):∀ {t:Ty}{x:t.den}{cs:List Value},t.Rel w N x cs->t.Rel w' N' x cs
 |.unit,_,_,h=>h
 |.bool,_,_,h=>h
 |.int _,_,_,h=>h
 |.str,_,_,h=>h
 |.err,_,_,h=>h
 |.opq,_,_,h=>h
 |.pair a b,_,_,⟨c1,c2,e,h1,h2⟩=>⟨c1,c2,e,Ty.Rel.mono (t:=a) hk hN h1,Ty.Rel.mono (t:=b) hk hN h2⟩
 |.arr _ a,_,_,⟨hn,css,e,h⟩=>⟨hn,css,e,h.mono λ_ _=>Ty.Rel.mono (t:=a) hk hN⟩
 |.slice a,_,_,⟨v,e,h⟩=>⟨v,e,h.mono hk hN λ_ _=>Ty.Rel.mono (t:=a) hk hN⟩
 |.clip a,_,_,⟨v,e,h,ht⟩=>⟨v,e,h.mono hk hN λ_ _=>Ty.Rel.mono (t:=a) hk hN,ht⟩
theorem Ty.Rel.length{w:World}{N:Nat->Nat->Prop}:∀ {t:Ty}{x:t.den}{cs:List Value},t.Rel w N x cs->cs.length=t.size
 |.unit,_,_,h=>by simp only[Ty.Rel]at h;subst h;rfl
 |.bool,_,_,h=>by simp only[Ty.Rel]at h;subst h;rfl
 |.int _,_,_,h=>by simp only[Ty.Rel]at h;subst h;rfl
 |.str,_,_,h=>by simp only[Ty.Rel]at h;subst h;rfl
 |.err,_,_,⟨v,e,_⟩=>by subst e;rfl
 |.opq,_,_,⟨e,_⟩=>by subst e;rfl
 |.pair a b,_,_,⟨c1,c2,e,h1,h2⟩=>by subst e;simp[Ty.size,Ty.Rel.length (t:=a) h1,Ty.Rel.length (t:=b) h2]
 |.arr n a,_,_,⟨hn,css,e,h⟩=>by
  subst e;rw[cZ (n:=a.size) css λc hc=>by obtain⟨x,_,hx⟩:=h.mem_right c hc;exact Ty.Rel.length (t:=a) hx];rw[<- h.length,hn];rfl
 |.slice a,_,_,⟨v,e,_⟩=>by subst e;rfl
 |.clip a,_,_,⟨v,e,_⟩=>by subst e;rfl
theorem Ty.Rel.one{w:World}{N:Nat->Nat->Prop}:∀ {t:Ty}{x:t.den}{cs:List Value},t.Rel w N x cs->∀ c∈cs,c.oneCell'=true
 |.unit,_,_,h=>by simp only[Ty.Rel]at h;subst h;simp
 |.bool,_,_,h=>by simp only[Ty.Rel]at h;subst h;simp[kR]
 |.int _,_,_,h=>by simp only[Ty.Rel]at h;subst h;simp[kR]
 |.str,_,_,h=>by simp only[Ty.Rel]at h;subst h;simp[kR]
 |.err,_,_,⟨v,e,h⟩=>by
  subst e;rcases h with ⟨_,t,x,rfl⟩|⟨_,rfl⟩<;>simp[kR]
 |.opq,_,_,⟨e,h⟩=>by subst e;simpa using h
 |.pair a b,_,_,⟨c1,c2,e,h1,h2⟩=>by
  subst e;intro c hc;rcases qAp.1 hc with hc|hc
  ·exact Ty.Rel.one (t:=a) h1 c hc
  ·exact Ty.Rel.one (t:=b) h2 c hc
 |.arr n a,_,_,⟨hn,css,e,h⟩=>by
  subst e;intro c hc;obtain⟨l,hl,hc⟩:=List.mem_flatten.1 hc;obtain⟨x,_,hx⟩:=h.mem_right l hl;exact Ty.Rel.one (t:=a) hx c hc
 |.slice a,_,_,⟨v,e,h⟩=>by
  subst e;rcases h with ⟨rfl,_⟩|⟨b,off,cap,css,rfl,_⟩|⟨a,cap,rfl,_⟩<;>simp[kR]
 |.clip a,_,_,⟨v,e,h,_⟩=>by
  subst e;rcases h with ⟨rfl,_⟩|⟨b,off,cap,css,rfl,_⟩|⟨a,cap,rfl,_⟩<;>simp[kR]
def Ty.bW(w:World)(N:Nat->Nat->Prop)(t:Ty)(x:t.den)(u:Value):Prop :=
 if t.isAgg then ∃ cs:List Value,u=.agg cs.toArray/\t.Rel w N x cs else t.Rel w N x [u]
theorem Ty.bW.mono{w w':World}{N N':Nat->Nat->Prop}(hk:Keep N w w')(hN:∀ b j,b<w.heap.size->N' b j->N b j){t:Ty}{x:t.den}{u:Value}(h:t.bW w N x u):t.bW w' N' x u:=by
 unfold Ty.bW at *;split
 ·rename_i ha;rw[if_pos ha]at h;obtain⟨cs,e,h⟩:=h;exact⟨cs,e,h.mono hk hN⟩
 ·rename_i ha;rw[if_neg ha]at h;exact h.mono hk hN
def nZ (w:World) (N:Nat->Nat->Prop) (kt vt:Ty) (es:List (kt.den×vt.den)) (ms:Array MapEntry):Prop :=bJ (fun (x:kt.den×vt.den) (m:MapEntry)=>kt.bW w N x.1 m.key ∧ vt.bW w N x.2 m.val) es ms.toList ∧ ∀ (i:Nat) (m:MapEntry),ms[i]? = some m->m.born = i
theorem nZ.mono{w w':World}{N N':Nat->Nat->Prop}(hk:Keep N w w')(hN:∀ b j,b<w.heap.size->N' b j->N b j){kt vt:Ty}{es:List (kt.den × vt.den)}{ms:Array MapEntry}(h:nZ w N kt vt es ms):nZ w' N' kt vt es ms :=
 ⟨h.1.mono λ_ _ hx=>⟨hx.1.mono hk hN,hx.2.mono hk hN⟩,h.2⟩
end Go.Dec
namespace Go.Dec
inductive MK where
 |i (k:IntKind) (n:Int)
 |s (b:List UInt8)
 deriving DecidableEq
def MK.v:MK->Value | .i k n => .int k n | .s b => .string ⟨b.toArray⟩
def MK.beq:MK->MK->Bool
 |.i k n,.i k' m=>decide (k=k')&&n==m
 |.s b,.s c=>b==c
 |_,_=>false
def kV:List (MK × Nat)->MK->Option Nat
 |[],_=>none
 |(a,f)::r,x=>if MK.beq x a=true then some f else kV r x
def zTz(x:MK)(tab:List (MK × Nat)):Value :=
 match kV tab x with
 |some f=>.func (.func f) #[] #[]
 |none=>.nilFunc
inductive L where
 |val (t:Ty) (x:t.den)
 |ptr (id off:Nat)
 |sK (id off es i sub:Nat)
 |jC
 |fD (id off:Nat)
 |jD (id ver i off:Nat)
 |rJ (t:Ty) (x:t.den) (off:Nat)
 |sl (id ver off len:Nat)
 |own (id ver:Nat)
 |aZ
 |clo (f:Nat) (caps:List L)
 |bad (size:Nat)
 |mp (id:Nat)
 |Uu (x:MK) (tab:List (MK × Nat))
inductive V where
 |one (l:L)
 |agg (ls:List L)
 |tup (vs:List (Sum L (List L)))
 |cK
inductive Ob where
 |box (e:TypeId) (ls:List L)
 |arr (e:TypeId) (t:Ty) (ver:Nat) (rows:List t.den) (wr:Bool)
 |fm (tab:List (MK × Nat))
 |dm (kt vt:Ty) (es:List (kt.den × vt.den))
 |stk (e ei:TypeId) (ver:Nat) (rows:List (Int × Int × List Int × List Int × Unit)) (top:Option (List L))
def L.size:L->Nat | .val t _=>t.size | .bad n=>n | _=>1
structure Pl where
 live:Bool
 box:Bool
 ver:Nat
 blk:Option Nat
 size:Nat
 cap:Nat
 len:Nat
 sub:List (Nat × Nat)
def RP (w:World) (N:Nat->Nat->Prop) (t:Ty) (x:t.den) (off:Nat) (c:Value):Prop :=∃ b o cs,c = .pointer (some ⟨b,o+off,none⟩) ∧ b<w.heap.size ∧ (∀ j,o<=j->j<o+cs.length -> ¬ N b j) ∧ t.Rel w N x cs ∧ Cells w b o cs
def eP(p:Pl)(off len:Nat)(c:Value):Prop :=
 match p.blk with
 |none=>c=.slice none 0 0/\off=0/\len=0
 |some b=>off+len<=p.cap/\∃ o,c=.slice (some ⟨b,o,none⟩) len (p.cap-off)/\(o=off*p.size\/(off=p.cap/\0<off))
def zXo(f:Nat):List Value->Value
 |[]=>.func (.func f) #[] #[]
 |u::us=>if f<1000000 then .func (.func f) #[] (u::us).toArray else .func (.func (f-1000000)) (u::us).toArray #[]
theorem zEh{f:Nat}(h:f<1000000)(us:List Value):zXo f us=.func (.func f) #[] us.toArray:=by
 cases us with
 |nil=>rfl
 |cons u us =>
  show(if f<1000000 then _ else _)=_;rw[if_pos h]
theorem zXp{f:Nat}(h:¬ f<1000000)(u:Value)(us:List Value):zXo f (u::us)=.func (.func (f-1000000)) (u::us).toArray #[]:=by
 show(if f<1000000 then _ else _)=_;rw[if_neg h]
theorem zUa(f:Nat)(u:Value)(us:List Value):zXo (f+1000000) (u::us)=.func (.func f) (u::us).toArray #[]:=by
 rw[zXp (by omega),Nat.add_sub_cancel]
theorem zXq(f:Nat)(us:List Value):∃ g p q,zXo f us=.func (.func g) p q:=by
 cases us with
 |nil=>exact⟨_,_,_,rfl⟩
 |cons u us =>
  by_cases h:f<1000000
  ·exact⟨_,_,_,zEh h _⟩
  ·exact⟨_,_,_,zXp h _ _⟩
mutual
def L.Rel(β:Nat->Pl)(w:World)(N:Nat->Nat->Prop):L->List Value->Prop
 |.val t x,cs=>t.Rel w N x cs
 |.ptr id off,cs=>(β id).live=true/\(β id).box=true/\∃ b,(β id).blk=some b/\cs=[.pointer (some ⟨b,off,none⟩)]
 |.sK id off es i sub,cs=>(β id).live=true/\(β id).box=true/\∃ b,(β id).blk=some b/\cs=[.pointer (some ⟨b,off+i*es+sub,none⟩)]
 |.jC,cs=>cs=[.pointer none]
 |.fD id off,cs=>∃ c,cs=[c]/\(c=.pointer none\/((β id).live=true/\(β id).box=true/\∃ b,(β id).blk=some b/\c=.pointer (some ⟨b,off,none⟩)))
 |.jD id ver i off,cs=>(β id).live=true/\(β id).box=false/\ver<=(β id).ver/\∃ c,cs=[c]/\(∃ q o,c=.pointer (some ⟨q,o,none⟩)) /\
  ((β id).ver=ver->∃ b,(β id).blk=some b/\c=.pointer (some ⟨b,i*(β id).size+off,none⟩))
 |.rJ t x off,cs=>∃ c,cs=[c]/\RP w N t x off c
 |.sl id ver off len,cs=>(β id).live=true/\(β id).box=false/\ver<=(β id).ver/\∃ c,cs=[c]/\c.oneCell'=true/\((β id).ver=ver->eP (β id) off len c)
 |.own id ver,cs=>(β id).live=true/\(β id).box=false/\ver<=(β id).ver/\∃ c,cs=[c]/\c.oneCell'=true/\((β id).ver=ver->eP (β id) 0 (β id).len c)
 |.aZ,cs=>cs=[.slice none 0 0]
 |.clo f caps,cs=>∃ us,cs=[zXo f us]/\L.eG β w N caps us
 |.bad n,cs=>cs.length=n/\∀ c∈cs,c.oneCell'=true
 |.mp id,cs=>(β id).live=true/\(β id).box=true/\∃ b,(β id).blk=some b/\cs=[.map (some b)]
 |.Uu x tab,cs=>cs=[zTz x tab]
def L.eG (β:Nat->Pl) (w:World) (N:Nat->Nat->Prop):List L->List Value->Prop | [],us=>us = [] | l :: ls,us => ∃ u r,us = u :: r ∧ L.Rel β w N l [u] ∧ L.eG β w N ls r
end
def aJ (β:Nat->Pl) (w:World) (N:Nat->Nat->Prop):List L->List Value->Prop | [],cs=>cs = [] | l :: ls,cs => ∃ c1 c2,cs = c1++c2 ∧ l.Rel β w N c1 ∧ aJ β w N ls c2
def jM (β:Nat->Pl) (w:World) (N:Nat->Nat->Prop):Sum L (List L)->Value->Prop | .inl l,v=>l.Rel β w N [v] | .inr ls,v => ∃ cs:List Value,v = .agg cs.toArray ∧ aJ β w N ls cs
def V.Rel (β:Nat->Pl) (w:World) (N:Nat->Nat->Prop):V->Value->Prop | .one l,v=>l.Rel β w N [v] | .agg ls,v => ∃ cs:List Value,v = .agg cs.toArray ∧ aJ β w N ls cs | .tup vs,v => ∃ us:List Value,v = .tuple us.toArray ∧ bJ (jM β w N) vs us | .cK,_=>True
def Eb (tab:List (MK×Nat)) (es:List MapEntry):Prop :=(∀ e ∈ es,∃ x f,e.key = x.v ∧ e.val = .func (.func f) #[] #[] ∧ kV tab x = some f) ∧ ∀ q ∈ tab,∃ e ∈ es,e.key = q.1.v
def Wm (w:World) (ei:TypeId) (xs:List Int) (v:Value) (bs:List Nat):Prop :=(v = .slice none 0 0 ∧ xs = [] ∧ bs = []) ∨ ∃ b cap cur,bs = [b] ∧ v = .slice (some ⟨b,0,none⟩) xs.length cap ∧ w.heap[b]? = some (.cells cur ei (0,0)) ∧ cur.toList.take xs.length = xs.map (Value.int .i64) ∧ cur.size = cap ∧ xs.length<=cap ∧ cap<=maxLen
def iZ(w:World)(ei:TypeId):List (Int × Int × List Int × List Int × Unit)->List Value->List Nat->Prop
 |[],cs,bs=>cs=[]/\bs=[]
 |f::fs,cs,bs=>∃ v1 v2 b1 b2 cs' bs',cs=.int .i64 f.1::.int .i64 f.2.1::v1::v2::cs'/\bs=b1++(b2++bs')/\Wm w ei f.2.2.1 v1 b1/\Wm w ei f.2.2.2.1 v2 b2/\iZ w ei fs cs' bs'
def Ms:Option (List L)->Nat | none=>0 | some _=>1
def Yb (β:Nat->Pl) (w:World) (N:Nat->Nat->Prop):Option (List L)->List Value->Prop | none,cs=>cs = [] | some ls,cs=>aJ β w N ls cs ∧ cs.length = 4
theorem Yb.imp{β β':Nat->Pl}{w w':World}{N N':Nat->Nat->Prop}{top:Option (List L)}{cs:List Value}(h:Yb β w N top cs)(f:List L->List L)(hf:∀ ls cs,top=some ls->aJ β w N ls cs->aJ β' w' N' (f ls) cs):Yb β' w' N' (top.map f) cs:=by
 cases top with
 |none=>exact h
 |some ls=>exact⟨hf ls cs rfl h.1,h.2⟩
theorem zGh{top:Option (List L)}{f:List L->List L}:Ms (top.map f)=Ms top:=by cases top<;>rfl
theorem Wm.mono{w w':World}{ei:TypeId}{xs:List Int}{v:Value}{bs:List Nat}(h:Wm w ei xs v bs)(hb:∀ b∈bs,w'.heap[b]?=w.heap[b]?):Wm w' ei xs v bs:=by
 rcases h with h|⟨b,cap,cur,h1,h2,h3,h4⟩
 ·exact .inl h
 ·exact .inr ⟨b,cap,cur,h1,h2,by rw[hb b (by rw[h1];exact .head _)];exact h3,h4⟩
theorem iZ.mono{w w':World}{ei:TypeId}:∀ {fs:List (Int × Int × List Int × List Int × Unit)}{cs:List Value}{bs:List Nat},iZ w ei fs cs bs->(∀ b∈bs,w'.heap[b]?=w.heap[b]?)->iZ w' ei fs cs bs
 |[],_,_,h,_=>h
 |_::_,_,_,⟨v1,v2,b1,b2,cs',bs',h1,h2,h3,h4,h5⟩,hb=>⟨v1,v2,b1,b2,cs',bs',h1,h2,
  h3.mono λb hm=>hb b (by rw[h2];exact qAq _ hm),h4.mono λb hm=>hb b (by rw[h2];exact qAh _ (qAq _ hm)),
  iZ.mono h5 λb hm=>hb b (by rw[h2];exact qAh _ (qAh _ hm))⟩
theorem iZ.length{w:World}{ei:TypeId}:∀ {fs:List (Int × Int × List Int × List Int × Unit)}{cs:List Value}{bs:List Nat},iZ w ei fs cs bs->cs.length=fs.length*4
 |[],_,_,h=>by rw[h.1];rfl
 |_::fs,_,_,⟨v1,v2,b1,b2,cs',bs',h1,h2,h3,h4,h5⟩=>by
  rw[h1,xI,xI,xI,xI,iZ.length h5,xI];omega
theorem Wm.one{w:World}{ei:TypeId}{xs:List Int}{v:Value}{bs:List Nat}(h:Wm w ei xs v bs):v.oneCell'=true:=by
 rcases h with ⟨rfl,_⟩|⟨b,cap,cur,_,rfl,_⟩<;>rfl
theorem iZ.one{w:World}{ei:TypeId}:∀ {fs:List (Int × Int × List Int × List Int × Unit)}{cs:List Value}{bs:List Nat},iZ w ei fs cs bs->∀ c∈cs,c.oneCell'=true
 |[],_,_,h,c,hc=>by rw[h.1]at hc;cases hc
 |_::_,_,_,⟨v1,v2,b1,b2,cs',bs',h1,h2,h3,h4,h5⟩,c,hc=>by
  rw[h1]at hc;simp only[List.mem_cons]at hc;rcases hc with rfl|rfl|rfl|rfl|hc
  ·rfl
  ·rfl
  ·exact h3.one
  ·exact h4.one
  ·exact iZ.one h5 c hc
theorem iZ.get{w:World}{ei:TypeId}:∀ {fs:List (Int × Int × List Int × List Int × Unit)}{cs:List Value}{bs:List Nat},iZ w ei fs cs bs->∀ (i:Nat) (f:Int × Int × List Int × List Int × Unit),fs[i]?=some f ->
 ∃ v1 v2,(cs.drop (i*4)).take 4=[.int .i64 f.1,.int .i64 f.2.1,v1,v2]/\v1.oneCell'=true/\v2.oneCell'=true
 |[],_,_,_,i,f,h=>by simp at h
 |_::_,_,_,⟨v1,v2,b1,b2,cs',bs',h1,h2,h3,h4,h5⟩,0,f,h=>by
  simp only[qAi,aA]at h;subst h;exact⟨v1,v2,by rw[h1];rfl,h3.one,h4.one⟩
 |_::fs,_,_,⟨v1,v2,b1,b2,cs',bs',h1,h2,h3,h4,h5⟩,i+1,f,h=>by
  obtain⟨u1,u2,g1,g2⟩:=iZ.get h5 i f (by simpa using h);refine⟨u1,u2,?_,g2⟩;rw[h1,show(i+1)*4=i*4+4 by omega];exact g1
theorem iZ.append{w:World}{ei:TypeId}:∀ {fs:List (Int × Int × List Int × List Int × Unit)}{cs:List Value}{bs:List Nat} {fs' cs' bs'},iZ w ei fs cs bs->iZ w ei fs' cs' bs'->iZ w ei (fs++fs') (cs++cs') (bs++bs')
 |[],_,_,_,_,_,h,h'=>by rw[h.1,h.2];exact h'
 |_::fs,_,_,_,_,_,⟨v1,v2,b1,b2,cs',bs',h1,h2,h3,h4,h5⟩,h'=>⟨v1,v2,b1,b2,_,_,by rw[h1];rfl,by rw[h2,wE,wE],h3,h4,iZ.append h5 h'⟩
theorem iZ.split{w:World}{ei:TypeId}:∀ {fs fs':List (Int × Int × List Int × List Int × Unit)}{cs:List Value}{bs:List Nat},iZ w ei (fs++fs') cs bs->∃ c1 c2 d1 d2,cs=c1++c2/\bs=d1++d2/\iZ w ei fs c1 d1/\iZ w ei fs' c2 d2
 |[],_,cs,bs,h=>⟨[],cs,[],bs,rfl,rfl,⟨rfl,rfl⟩,h⟩
 |_::fs,_,_,_,⟨v1,v2,b1,b2,cs',bs',h1,h2,h3,h4,h5⟩=>by
  obtain⟨c1,c2,d1,d2,e1,e2,e3,e4⟩:=iZ.split h5;exact⟨_::_::v1::v2::c1,c2,b1++(b2++d1),d2,by rw[h1,e1];rfl,by rw[h2,e2,wE,wE],⟨v1,v2,b1,b2,c1,d1,rfl,rfl,h3,h4,e3⟩,e4⟩
def Ob.Rel (β:Nat->Pl) (w:World) (N:Nat->Nat->Prop) (p:Pl):Ob->Prop | .box e ls=>p.live = true ∧ p.box = true ∧ ∃ b cs,p.blk = some b ∧ aJ β w N ls cs ∧ w.heap[b]? = some (.cells cs.toArray e (0,0)) | .arr e t ver rows _=>p.live = true ∧ p.box = false ∧ p.ver = ver ∧ p.size = t.size ∧ 0<t.size ∧ p.len = rows.length ∧ ((p.blk = none ∧ rows = [] ∧ p.cap = 0) ∨ ∃ b cur css,p.blk = some b ∧ w.heap[b]? = some (.cells cur e (0,0)) ∧ bJ (fun x c=>t.Rel w N x c) rows css ∧ cur.toList.take (rows.length*t.size) = css.flatten ∧ cur.size = p.cap*t.size ∧ rows.length<=p.cap ∧ p.cap<=maxLen) | .fm tab=>p.live = true ∧ p.box = true ∧ ∃ b es n,p.blk = some b ∧ w.heap[b]? = some (.map es n) ∧ Eb tab es.toList | .dm kt vt es=>p.live = true ∧ p.box = true ∧ ∃ b ms,p.blk = some b ∧ w.heap[b]? = some (.map ms ms.size) ∧ nZ w N kt vt es ms | .stk e ei ver rows top=>p.live = true ∧ p.box = false ∧ p.ver = ver ∧ p.size = 4 ∧ p.len = rows.length+Ms top ∧ ∃ b cur cs cs2 bs,p.blk = some b ∧ w.heap[b]? = some (.cells cur e (0,0)) ∧ cur.size = p.cap * 4 ∧ p.len<=p.cap ∧ p.cap<=maxLen ∧ p.sub = bs.map (fun q=>(q,0)) ∧ bs.Nodup ∧ b ∉ bs ∧ iZ w ei rows cs bs ∧ Yb β w N top cs2 ∧ cur.toList.take (p.len * 4) = cs++cs2
def Ob.wr:Ob->Bool | .box ..=>true | .arr _ _ _ _ b=>b | .fm _=>true | .dm ..=>true | .stk ..=>true
def Ob.tQ:Ob->Bool | .box ..=>false | .arr ..=>false | .fm _=>false | .dm ..=>false | .stk ..=>true
def Ob.plain (o:Ob):Bool:=!o.tQ
def Ob.at (o:Ob) (p:Pl) (b j:Nat):Prop:=p.blk = some b ∨ (o.tQ = true ∧ ∃ m,(b,m) ∈ p.sub ∧ m<=j)
def Ob.blks (o:Ob) (p:Pl) (b:Nat):Prop := ∃ j,o.at p b j
theorem Ob.mP{o:Ob}{p:Pl}{b j:Nat}(h:p.blk=some b):o.at p b j:=.inl h
theorem Ob.xL{o:Ob}{p:Pl}{b:Nat}(h:p.blk=some b):o.blks p b:=⟨0,Ob.mP h⟩
theorem Ob.zRf{o:Ob}{p:Pl}{b j:Nat}(hp:o.plain=true)(h:o.at p b j):p.blk=some b:=by
 rcases h with h|⟨h,_⟩
 ·exact h
 ·simp[Ob.plain,h]at hp
theorem Ob.uU{o:Ob}{p:Pl}{b:Nat}(hp:o.plain=true)(h:o.blks p b):p.blk=some b:=by obtain⟨j,h⟩:=h;exact Ob.zRf hp h
theorem Ob.zV{o o':Ob}{p p':Pl}{b j:Nat}(h1:o.tQ=o'.tQ)(h2:p.blk=p'.blk)(h3:p.sub=p'.sub)(h:o.at p b j):o'.at p' b j:=by
 unfold Ob.at at *;rw[<- h1,<- h2,<- h3];exact h
theorem Ob.mQ{o o':Ob}{p p':Pl}{b:Nat}(h1:o.tQ=o'.tQ)(h2:p.blk=p'.blk)(h3:p.sub=p'.sub)(h:o.blks p b):o'.blks p' b:=by
 obtain⟨j,h⟩:=h;exact⟨j,Ob.zV h1 h2 h3 h⟩
theorem Ob.Rel.yVp{β:Nat->Pl}{w:World}{N:Nat->Nat->Prop}{o:Ob}{p:Pl}(h:o.Rel β w N p)(hb:p.box=true):o.tQ=false:=by
 cases o with
 |stk e ei ver rows top =>
  simp only[Ob.Rel]at h;rw[h.2.1]at hb;cases hb
 |_=>rfl
structure St where
 r:List V
 h:List Ob
def slash:String:=String.singleton (Char.ofNat 47)
inductive GK where
 |int (k:IntKind)
 |tab (k:IntKind) (zs:List Int)
 |any
def GK.ok (w:World) (g:Nat):GK->Prop | .int k => ∃ m:Int,w.cell? ⟨g,0,none⟩ = some (.int k m) | .tab k zs => ∃ a b,w.heap[g]? = some (.cells (zs.map (Value.int k)).toArray a b) | .any => ∃ v,w.cell? ⟨g,0,none⟩ = some v ∧ (v = .nilIface ∨ ∃ te pe,v = .iface te pe)
def yNa:List Int:=[0,1,56,2,57,49,28,3,61,58,42,50,38,29,17,4,62,47,59,36,45,43,51,22,53,39,33,30,24,18,12,5,63,55,48,27,60,41,37,16,46,35,44,21,52,32,23,11,54,26,40,15,34,20,31,10,25,14,19,9,13,8,7,6]
def yNb:List Int:=[0,1,28,2,29,14,24,3,30,22,20,15,25,17,4,8,31,27,13,23,21,19,16,7,26,12,18,6,11,5,10,9]
def yNc:List Int:=[1,10,100,1000,10000,100000,1000000,10000000,100000000,1000000000,10000000000,100000000000,1000000000000,10000000000000,100000000000000,1000000000000000,10000000000000000,100000000000000000,1000000000000000000,10000000000000000000]
def zRg (s:String):Option GK :=
 if s = "internal" ++ slash ++ "bytealg.MaxLen" then some (.int .i64)
 else if s = "math" ++ slash ++ "bits.deBruijn64tab" then some (.tab .u8 yNa)
 else if s = "math" ++ slash ++ "bits.deBruijn32tab" then some (.tab .u8 yNb)
 else if s = "internal" ++ slash ++ "strconv.uint64pow10" then some (.tab .u64 yNc)
 else if s = "strconv.ErrSyntax" then some .any
 else if s = "strconv.ErrRange" then some .any
 else none
def Glob (P:Program) (w:World):Prop := ∀ (g:Nat) (x:Global),P.globals[g]? = some x -> ∀ k,zRg x.name = some k->k.ok w g
theorem GK.ok.keep{k:GK}{g:Nat}{w w':World}(h:k.ok w g)(hk:∀ b:Nat,b<w.heap.size->w'.heap[b]?=w.heap[b]?):k.ok w' g:=by
 have cell:∀ v,w.cell? ⟨g,0,none⟩=some v->w'.cell? ⟨g,0,none⟩=some v:=λv hv=>by
  have hlt:g<w.heap.size:=by
   rcases jF g w.heap.size with hlt|hge
   ·exact hlt
   ·simp[World.cell?,Array.getElem?_eq_none hge]at hv
  unfold World.cell? at *;rw[hk g hlt];exact hv
 cases k with
 |int k=>obtain⟨m,hm⟩:=h;exact⟨m,cell _ hm⟩
 |any=>obtain⟨v,hv,hk2⟩:=h;exact⟨v,cell _ hv,hk2⟩
 |tab k zs =>
  obtain⟨a,b,hm⟩:=h;exact⟨a,b,(hk g (Array.getElem?_eq_some_iff.1 hm).1).trans hm⟩
theorem Glob.keep{P:Program}{w w':World}(h:Glob P w)(hk:∀ b:Nat,b<w.heap.size->w'.heap[b]?=w.heap[b]?):Glob P w' :=
 λg x hx k hn=>(h g x hx k hn).keep hk
structure Ctx where
 P:Program
 N0:Nat->Nat->Prop
 w0:World
 Uv:Nat->Nat->Prop
 glob:∀ w':World,Keep Uv w0 w'->Glob P w'
 fix:List (Option Nat)
def owns (β:Nat->Pl) (h:List Ob) (b j:Nat):Prop := ∃ (id:Nat) (o:Ob),h[id]? = some o ∧ o.wr = true ∧ o.at (β id) b j
def Ctx.N (C:Ctx) (β:Nat->Pl) (h:List Ob) (b j:Nat):Prop:=C.N0 b j ∨ owns β h b j
structure fC (C:Ctx) (β:Nat->Pl) (h:List Ob) (w:World):Prop where
 obj:∀ (id:Nat) (o:Ob),h[id]?=some o->o.Rel β w (C.N β h) (β id)
 dead:∀ id:Nat,h.length<=id->(β id).live=false
 kX:∀ (i j:Nat) (o o':Ob) (b:Nat),h[i]?=some o->h[j]?=some o'->o.blks (β i) b->o'.blks (β j) b->i=j
 eZ:∀ (id:Nat) (o:Ob) (b:Nat),h[id]?=some o->o.blks (β id) b->(∀ j,¬ C.N0 b j)/\b<w.heap.size/\(C.w0.heap.size<=b\/∀ j,o.wr=true->o.at (β id) b j->C.Uv b j)
 n0:∀ b j:Nat,C.N0 b j->b<C.w0.heap.size
 frame:Keep C.Uv C.w0 w
 size:C.w0.heap.size<=w.heap.size
 os:w.os=C.w0.os
 tape:w.tape=C.w0.tape
 output:w.output=C.w0.output
 fixed:∀ (j:Nat) (o:Option Nat),C.fix[j]?=some o->j<h.length/\∀ b,o=some b->(β j).blk=some b/\(β j).box=true
theorem fC.apart{C:Ctx}{β:Nat->Pl}{h:List Ob}{w:World}(hs:fC C β h w)(i j:Nat)(o o':Ob)(b:Nat)(h1:h[i]?=some o)(h2:h[j]?=some o')(h3:(β i).blk=some b)(h4:(β j).blk=some b):i=j:=hs.kX i j o o' b h1 h2 (Ob.xL h3) (Ob.xL h4)
theorem fC.Lj{C:Ctx}{β:Nat->Pl}{h:List Ob}{w:World}(hs:fC C β h w){id:Nat}{o o':Ob}{p:Pl}{b:Nat}(h1:h[id]?=some o)(ht:o'.tQ=o.tQ)(hb:p.blk=(β id).blk)(hsb:p.sub=(β id).sub)(hw:o'.wr=true->o.wr=true)(hbl:o'.blks p b):(∀ j,¬ C.N0 b j)/\b<w.heap.size/\(C.w0.heap.size<=b\/∀ j,o'.wr=true->o'.at p b j->C.Uv b j):=by
 obtain⟨k1,k2,k3⟩:=hs.eZ id o b h1 (Ob.mQ ht hb hsb hbl);exact⟨k1,k2,k3.imp (λh=>h) λh j g1 g2=>h j (hw g1) (Ob.zV ht hb hsb g2)⟩
theorem fC.fresh{C:Ctx}{β:Nat->Pl}{h:List Ob}{w:World}(hs:fC C β h w)(id:Nat)(o:Ob)(b:Nat)(h1:h[id]?=some o)(h2:(β id).blk=some b):(∀ j,¬ C.N0 b j)/\b<w.heap.size/\(C.w0.heap.size<=b\/∀ j,o.wr=true->C.Uv b j):=by
 obtain⟨k1,k2,k3⟩:=hs.eZ id o b h1 (Ob.xL h2);exact⟨k1,k2,k3.imp (λh=>h) λh j hw=>h j hw (Ob.mP h2)⟩
structure Sim (C:Ctx) (β:Nat->Pl) (σ:St) (a:Act) (w:World):Prop where
 heap:fC C β σ.h w
 defers:a.defers=[]
 size:σ.r.length=a.tmps.size
 reg:∀ (i:Nat) (v:V),σ.r[i]?=some v->v.Rel β w (C.N β σ.h) (a.tmps.getD i undef)
def Moves(β β':Nat->Pl):Prop:=∀ id:Nat,(β id).live=true->β' id=β id\/((β id).box=false/\(β' id).live=true/\(β' id).box=false/\(β id).ver<(β' id).ver)
theorem Moves.refl(β:Nat->Pl):Moves β β:=λ_ _=>.inl rfl
section mono
variable {β β':Nat->Pl}{w w':World}{N N':Nat->Nat->Prop}
theorem RP.mono(hk:Keep N w w')(hN:∀ b j,b<w.heap.size->N' b j->N b j){t:Ty}{x:t.den}{off:Nat}{c:Value}(h:RP w N t x off c):RP w' N' t x off c:=by
 obtain⟨b,o,cs,hc,hb,hn,hr,hcs⟩:=h;exact⟨b,o,cs,hc,wD hb hk.size,λj h1 h2 h=>hn j h1 h2 (hN b j hb h),hr.mono hk hN,hk.cells hb hn hcs⟩
mutual
theorem L.Rel.mono(hm:Moves β β')(hk:Keep N w w')(hN:∀ b j,b<w.heap.size->N' b j->N b j):∀ {l:L}{cs:List Value},l.Rel β w N cs->l.Rel β' w' N' cs
 |.val t x,cs,h=>by simp only[L.Rel]at *;exact Ty.Rel.mono hk hN h
 |.ptr id off,cs,h=>by
  simp only[L.Rel]at *;obtain⟨h1,h2,h3⟩:=h;rcases hm id h1 with e|⟨h4,_⟩
  ·rw[e];exact⟨h1,h2,h3⟩
  ·rw[h2]at h4;cases h4
 |.sK id off es i sub,cs,h=>by
  simp only[L.Rel]at *;obtain⟨h1,h2,h3⟩:=h;rcases hm id h1 with e|⟨h4,_⟩
  ·rw[e];exact⟨h1,h2,h3⟩
  ·rw[h2]at h4;cases h4
 |.jC,cs,h=>by simp only[L.Rel]at *;exact h
 |.fD id off,cs,h=>by
  simp only[L.Rel]at *;obtain⟨c,e,h⟩:=h;refine⟨c,e,?_⟩;rcases h with h|⟨h1,h2,h3⟩
  ·exact .inl h
  ·rcases hm id h1 with e|⟨h4,_⟩
   ·rw[e];exact .inr ⟨h1,h2,h3⟩
   ·rw[h2]at h4;cases h4
 |.jD id ver i off,cs,h=>by
  simp only[L.Rel]at *;obtain⟨h1,h2,h3,c,h4,h5,h6⟩:=h;rcases hm id h1 with e|⟨h7,h8,h9,h10⟩
  ·rw[e];exact⟨h1,h2,h3,c,h4,h5,h6⟩
  ·exact⟨h8,h9,by omega,c,h4,h5,λhv=>by omega⟩
 |.rJ t x off,cs,h=>by simp only[L.Rel]at *;obtain⟨c,hc,hr⟩:=h;exact⟨c,hc,hr.mono hk hN⟩
 |.sl id ver off len,cs,h=>by
  simp only[L.Rel]at *;obtain⟨h1,h2,h3,c,h4,h5,h6⟩:=h;rcases hm id h1 with e|⟨h7,h8,h9,h10⟩
  ·rw[e];exact⟨h1,h2,h3,c,h4,h5,h6⟩
  ·exact⟨h8,h9,by omega,c,h4,h5,λhv=>by omega⟩
 |.own id ver,cs,h=>by
  simp only[L.Rel]at *;obtain⟨h1,h2,h3,c,h4,h5,h6⟩:=h;rcases hm id h1 with e|⟨h7,h8,h9,h10⟩
  ·rw[e];exact⟨h1,h2,h3,c,h4,h5,h6⟩
  ·exact⟨h8,h9,by omega,c,h4,h5,λhv=>by omega⟩
 |.aZ,cs,h=>by simp only[L.Rel]at *;exact h
 |.clo f caps,cs,h=>by
  simp only[L.Rel]at *;obtain⟨us,hc,hr⟩:=h;exact⟨us,hc,L.eG.mono hm hk hN hr⟩
 |.bad n,cs,h=>by simp only[L.Rel]at *;exact h
 |.mp id,cs,h=>by
  simp only[L.Rel]at *;obtain⟨h1,h2,h3⟩:=h;rcases hm id h1 with e|⟨h4,_⟩
  ·rw[e];exact⟨h1,h2,h3⟩
  ·rw[h2]at h4;cases h4
 |.Uu x tab,cs,h=>by simp only[L.Rel]at *;exact h
theorem L.eG.mono(hm:Moves β β')(hk:Keep N w w')(hN:∀ b j,b<w.heap.size->N' b j->N b j):∀ {ls:List L}{us:List Value},L.eG β w N ls us->L.eG β' w' N' ls us
 |[],us,h=>by simp only[L.eG]at *;exact h
 |l::ls,us,h=>by
  simp only[L.eG]at *;obtain⟨u,r,e,h1,h2⟩:=h;exact⟨u,r,e,L.Rel.mono hm hk hN h1,L.eG.mono hm hk hN h2⟩
end
theorem aJ.mono(hm:Moves β β')(hk:Keep N w w')(hN:∀ b j,b<w.heap.size->N' b j->N b j):∀ {ls:List L}{cs:List Value},aJ β w N ls cs->aJ β' w' N' ls cs
 |[],_,h=>h
 |_::_,_,⟨c1,c2,e,h1,h2⟩=>⟨c1,c2,e,h1.mono hm hk hN,aJ.mono hm hk hN h2⟩
theorem jM.mono(hm:Moves β β')(hk:Keep N w w')(hN:∀ b j,b<w.heap.size->N' b j->N b j):∀ {s:Sum L (List L)}{v:Value},jM β w N s v->jM β' w' N' s v
 |.inl _,_,h=>L.Rel.mono hm hk hN h
 |.inr _,_,⟨cs,e,h⟩=>⟨cs,e,h.mono hm hk hN⟩
theorem V.Rel.mono(hm:Moves β β')(hk:Keep N w w')(hN:∀ b j,b<w.heap.size->N' b j->N b j):∀ {x:V}{v:Value},x.Rel β w N v->x.Rel β' w' N' v
 |.one _,_,h=>L.Rel.mono hm hk hN h
 |.agg _,_,⟨cs,e,h⟩=>⟨cs,e,h.mono hm hk hN⟩
 |.tup _,_,⟨us,e,h⟩=>⟨us,e,h.mono λ_ _=>jM.mono hm hk hN⟩
 |.cK,_,_=>trivial
end mono
theorem L.Rel.length{β:Nat->Pl}{w:World}{N:Nat->Nat->Prop}:∀ {l:L}{cs:List Value},l.Rel β w N cs->cs.length=l.size
 |.val t x,_,h=>by simp only[L.Rel]at h;exact h.length
 |.ptr ..,_,h=>by simp only[L.Rel]at h;obtain⟨_,_,b,_,rfl⟩:=h;rfl
 |.sK ..,_,h=>by simp only[L.Rel]at h;obtain⟨_,_,b,_,rfl⟩:=h;rfl
 |.jC,_,h=>by simp only[L.Rel]at h;subst h;rfl
 |.fD ..,_,h=>by simp only[L.Rel]at h;obtain⟨c,rfl,_⟩:=h;rfl
 |.jD ..,_,h=>by simp only[L.Rel]at h;obtain⟨_,_,_,c,rfl,_⟩:=h;rfl
 |.rJ ..,_,h=>by simp only[L.Rel]at h;obtain⟨c,rfl,_⟩:=h;rfl
 |.sl ..,_,h=>by simp only[L.Rel]at h;obtain⟨_,_,_,c,rfl,_⟩:=h;rfl
 |.own ..,_,h=>by simp only[L.Rel]at h;obtain⟨_,_,_,c,rfl,_⟩:=h;rfl
 |.aZ,_,h=>by simp only[L.Rel]at h;subst h;rfl
 |.clo ..,_,h=>by simp only[L.Rel]at h;obtain⟨us,rfl,_⟩:=h;rfl
 |.bad n,_,h=>by simp only[L.Rel]at h;exact h.1
 |.mp ..,_,h=>by simp only[L.Rel]at h;obtain⟨_,_,b,_,rfl⟩:=h;rfl
 |.Uu ..,_,h=>by simp only[L.Rel]at h;subst h;rfl
theorem L.Rel.one{β:Nat->Pl}{w:World}{N:Nat->Nat->Prop}:∀ {l:L}{cs:List Value},l.Rel β w N cs->∀ c∈cs,c.oneCell'=true
 |.val t x,_,h=>by simp only[L.Rel]at h;exact h.one
 |.ptr ..,_,h=>by simp only[L.Rel]at h;obtain⟨_,_,b,_,rfl⟩:=h;simp[kR]
 |.sK ..,_,h=>by simp only[L.Rel]at h;obtain⟨_,_,b,_,rfl⟩:=h;simp[kR]
 |.jC,_,h=>by simp only[L.Rel]at h;subst h;simp[kR]
 |.fD ..,_,h=>by
  simp only[L.Rel]at h;obtain⟨c,rfl,h⟩:=h;rcases h with rfl|⟨_,_,b,_,rfl⟩<;>simp[kR]
 |.jD ..,_,h=>by simp only[L.Rel]at h;obtain⟨_,_,_,c,rfl,⟨q,o,rfl⟩,_⟩:=h;simp[kR]
 |.rJ ..,_,h=>by simp only[L.Rel]at h;obtain⟨c,rfl,b,o,cs,rfl,_⟩:=h;simp[kR]
 |.sl ..,_,h=>by simp only[L.Rel]at h;obtain⟨_,_,_,c,rfl,h,_⟩:=h;simpa using h
 |.own ..,_,h=>by simp only[L.Rel]at h;obtain⟨_,_,_,c,rfl,h,_⟩:=h;simpa using h
 |.aZ,_,h=>by simp only[L.Rel]at h;subst h;simp[kR]
 |.clo f _,_,h=>by simp only[L.Rel]at h;obtain⟨us,rfl,_⟩:=h;obtain⟨g,p,q,e⟩:=zXq f us;simp[e,kR]
 |.bad n,_,h=>by simp only[L.Rel]at h;exact h.2
 |.mp ..,_,h=>by simp only[L.Rel]at h;obtain⟨_,_,b,_,rfl⟩:=h;simp[kR]
 |.Uu x tab,_,h=>by simp only[L.Rel]at h;subst h;unfold zTz;split<;>simp[kR]
theorem aJ.one{β:Nat->Pl}{w:World}{N:Nat->Nat->Prop}:∀ {ls:List L}{cs:List Value},aJ β w N ls cs->∀ c∈cs,c.oneCell'=true
 |[],_,h=>by simp only[aJ]at h;subst h;simp
 |l::ls,_,⟨c1,c2,e,h1,h2⟩=>by
  subst e;intro c hc;rcases qAp.1 hc with hc|hc
  ·exact h1.one c hc
  ·exact aJ.one h2 c hc
theorem aJ.append{β:Nat->Pl}{w:World}{N:Nat->Nat->Prop}:∀ {ls:List L}{cs:List Value}{ls':List L}{cs':List Value},aJ β w N ls cs->aJ β w N ls' cs'->aJ β w N (ls++ls') (cs++cs')
 |[],_,_,_,h,h'=>by simp only[aJ]at h;subst h;exact h'
 |l::ls,_,_,_,⟨c1,c2,e,h1,h2⟩,h'=>⟨c1,c2++_,by rw[e,wE],h1,aJ.append h2 h'⟩
def sizes (ls:List L):Nat:=ls.foldr (fun l n=>l.size+n) 0
theorem aJ.length{β:Nat->Pl}{w:World}{N:Nat->Nat->Prop}:∀ {ls:List L}{cs:List Value},aJ β w N ls cs->cs.length=sizes ls
 |[],_,h=>by simp only[aJ]at h;subst h;rfl
 |l::ls,_,⟨c1,c2,e,h1,h2⟩=>by subst e;simp[sizes,h1.length,aJ.length h2]
def explode:(t:Ty)->t.den->List L | .unit,_=>[] | .pair a b,x=>explode a x.1++explode b x.2 | .bool,x=>[.val .bool x] | .int k,x=>[.val (.int k) x] | .str,x=>[.val .str x] | .err,x=>[.val .err x] | .opq,x=>[.val .opq x] | .arr n a,x=>[.val (.arr n a) x] | .slice a,x=>[.val (.slice a) x] | .clip a,x=>[.val (.clip a) x]
theorem lJ{β:Nat->Pl}{w:World}{N:Nat->Nat->Prop}:∀ {t:Ty}{x:t.den}{cs:List Value},t.Rel w N x cs->aJ β w N (explode t x) cs
 |.unit,_,_,h=>h
 |.pair a b,_,_,⟨c1,c2,e,h1,h2⟩=>by subst e;exact(lJ (t:=a) h1).append (lJ (t:=b) h2)
 |.bool,_,_,h=>⟨_,[],(vE _).symm,by simpa only[L.Rel]using h,rfl⟩
 |.int _,_,_,h=>⟨_,[],(vE _).symm,by simpa only[L.Rel]using h,rfl⟩
 |.str,_,_,h=>⟨_,[],(vE _).symm,by simpa only[L.Rel]using h,rfl⟩
 |.err,_,_,h=>⟨_,[],(vE _).symm,by simpa only[L.Rel]using h,rfl⟩
 |.opq,_,_,h=>⟨_,[],(vE _).symm,by simpa only[L.Rel]using h,rfl⟩
 |.arr _ _,_,_,h=>⟨_,[],(vE _).symm,by simpa only[L.Rel]using h,rfl⟩
 |.slice _,_,_,h=>⟨_,[],(vE _).symm,by simpa only[L.Rel]using h,rfl⟩
 |.clip _,_,_,h=>⟨_,[],(vE _).symm,by simpa only[L.Rel]using h,rfl⟩
def yDt:(t':Ty)->t'.den->(t:Ty)->Option t.den
 |.clip a,x,.slice b=>if h:a=b then some (h ▸ x)else none
 |_,_,_=>none
theorem yNd{w:World}{N:Nat->Nat->Prop}{t' t:Ty}{x:t'.den}{y:t.den}{cs:List Value}(h:yDt t' x t=some y)(hr:t'.Rel w N x cs):t.Rel w N y cs:=by
 unfold yDt at h;split at h
 ·split at h
  ·rename_i e;subst e;obtain rfl:=Option.some.inj h;obtain⟨v,e,h,_⟩:=hr;exact⟨v,e,h⟩
  ·cases h
 ·cases h
def L.asT(t:Ty):L->Option t.den
 |.val t' x=>if h:t'=t then some (h ▸ x)else yDt t' x t
 |.aZ=>match t with
  |.slice _=>some []
  |_=>none
 |.clo f []=>match t with
  |.opq=>some (.func (.func f) #[] #[])
  |_=>none
 |_=>none
theorem L.zNp{β:Nat->Pl}{w:World}{N:Nat->Nat->Prop}{t:Ty}{l:L}{x:t.den}{cs:List Value}(h:l.asT t=some x)(hr:l.Rel β w N cs):t.Rel w N x cs:=by
 cases l with
 |val t' y =>
  simp only[L.asT]at h;split at h
  ·rename_i e;subst e;simp only[aA]at h;subst h;simpa only[L.Rel]using hr
  ·simp only[L.Rel]at hr;exact yNd h hr
 |aZ =>
  simp only[L.Rel]at hr;subst hr;cases t with
  |slice a =>
   simp only[L.asT,aA]at h;exact⟨_,rfl,.inl ⟨rfl,h.symm⟩⟩
  |_=>simp[L.asT]at h
 |clo f caps =>
  cases caps with
  |cons _ _=>simp[L.asT]at h
  |nil =>
   simp only[L.Rel]at hr;obtain⟨us,rfl,hu⟩:=hr;simp only[L.eG]at hu;subst hu;cases t with
   |opq =>
    simp only[L.asT,aA]at h;subst h;exact⟨rfl,rfl⟩
   |_=>simp[L.asT]at h
 |_=>simp[L.asT]at h
def dS:(t:Ty)->List L->Option (t.den × List L)
 |.unit,ls=>some ((),ls)
 |.pair a b,ls =>
  match dS a ls with
  |some (x,ls)=>
   match dS b ls with
   |some (y,ls)=>some ((x,y),ls)
   |none=>none
  |none=>none
 |.bool,l::ls=>(l.asT .bool).map (·,ls)
 |.int k,l::ls=>(l.asT (.int k)).map (·,ls)
 |.str,l::ls=>(l.asT .str).map (·,ls)
 |.err,l::ls=>(l.asT .err).map (·,ls)
 |.opq,l::ls=>(l.asT .opq).map (·,ls)
 |.arr n a,l::ls=>(l.asT (.arr n a)).map (·,ls)
 |.slice a,l::ls=>(l.asT (.slice a)).map (·,ls)
 |.clip a,l::ls=>(l.asT (.clip a)).map (·,ls)
 |_,[]=>none
theorem sM{β:Nat->Pl}{w:World}{N:Nat->Nat->Prop}{t:Ty}{l:L}{ls ls':List L}{x:t.den}{cs:List Value}(h:(l.asT t).map (·,ls)=some (x,ls'))(hr:aJ β w N (l::ls) cs):∃ c1 c2,cs=c1++c2/\t.Rel w N x c1/\aJ β w N ls' c2:=by
 obtain⟨c1,c2,e,h1,h2⟩:=hr;cases ha:l.asT t with
 |none=>rw[ha]at h;cases h
 |some y =>
  rw[ha]at h;simp only[kU,aA,aC]at h;obtain⟨rfl,rfl⟩:=h;exact⟨c1,c2,e,L.zNp ha h1,h2⟩
theorem vJ{β:Nat->Pl}{w:World}{N:Nat->Nat->Prop}:∀ {t:Ty}{ls ls':List L}{x:t.den}{cs:List Value},dS t ls=some (x,ls')->aJ β w N ls cs ->
 ∃ c1 c2,cs=c1++c2/\t.Rel w N x c1/\aJ β w N ls' c2
 |.unit,_,_,_,cs,h,hr=>by
  simp only[dS,aA,aC]at h;obtain⟨_,rfl⟩:=h;exact⟨[],cs,rfl,rfl,hr⟩
 |.pair a b,ls,ls',x,cs,h,hr=>by
  simp only[dS]at h;split at h
  ·rename_i y l1 h1;split at h
   ·rename_i z l2 h2;simp only[aA,aC]at h;obtain⟨rfl,rfl⟩:=h;obtain⟨c1,c2,e1,r1,s1⟩:=vJ (t:=a) h1 hr;obtain⟨d1,d2,e2,r2,s2⟩:=vJ (t:=b) h2 s1;exact⟨c1++d1,d2,by rw[e1,e2,wE],⟨c1,d1,rfl,r1,r2⟩,s2⟩
   ·cases h
  ·cases h
 |.bool,l::ls,_,_,_,h,hr=>by simp only[dS]at h;exact sM h hr
 |.int k,l::ls,_,_,_,h,hr=>by simp only[dS]at h;exact sM h hr
 |.str,l::ls,_,_,_,h,hr=>by simp only[dS]at h;exact sM h hr
 |.err,l::ls,_,_,_,h,hr=>by simp only[dS]at h;exact sM h hr
 |.opq,l::ls,_,_,_,h,hr=>by simp only[dS]at h;exact sM h hr
 |.arr n a,l::ls,_,_,_,h,hr=>by simp only[dS]at h;exact sM h hr
 |.slice a,l::ls,_,_,_,h,hr=>by simp only[dS]at h;exact sM h hr
 |.clip a,l::ls,_,_,_,h,hr=>by simp only[dS]at h;exact sM h hr
 |.bool,[],_,_,_,h,_=>by simp[dS]at h
 |.int k,[],_,_,_,h,_=>by simp[dS]at h
 |.str,[],_,_,_,h,_=>by simp[dS]at h
 |.err,[],_,_,_,h,_=>by simp[dS]at h
 |.opq,[],_,_,_,h,_=>by simp[dS]at h
 |.arr n a,[],_,_,_,h,_=>by simp[dS]at h
 |.slice a,[],_,_,_,h,_=>by simp[dS]at h
 |.clip a,[],_,_,_,h,_=>by simp[dS]at h
end Go.Dec
namespace Go.Dec
theorem aJ.single{β:Nat->Pl}{w:World}{N:Nat->Nat->Prop}{l:L}{c:Value}(h:l.Rel β w N [c]):aJ β w N [l] [c]:=⟨[c],[],rfl,h,rfl⟩
def zEi:Value->L | .bool b => .val .bool b | .int k n => .val (.int k) n | .string s => .val .str s.data.toList | .pointer none => .jC | .slice none 0 0 => .aZ | .nilFunc => .val .opq .nilFunc | .map none => .val .opq (.map none) | .nilIface => .val .err false | .iface t v => .val .opq (.iface t v) | _ => .bad 1
theorem zUb{β:Nat->Pl}{w:World}{N:Nat->Nat->Prop}(v:Value)(h:v.oneCell'=true):(zEi v).Rel β w N [v]:=by
 unfold zEi;split<;>simp only[L.Rel,Ty.Rel]
 case h_6=>exact⟨trivial,rfl⟩
 case h_7=>exact⟨trivial,rfl⟩
 case h_8=>exact⟨_,rfl,.inr ⟨trivial,rfl⟩⟩
 case h_9=>exact⟨trivial,rfl⟩
 case h_10=>exact⟨rfl,by intro c hc;simp at hc;subst hc;exact h⟩
def ovl(σ:St):Operand->V
 |.tmp t=>σ.r.getD t .cK
 |.const v=>match v with
  |.agg _|.tuple _=>.cK
  |v=>.one (zEi v)
 |.func f=>.one (.clo f [])
 |.global _=>.cK
theorem bE{C:Ctx}{β:Nat->Pl}{σ:St}{a:Act}{w:World}(h:Sim C β σ a w)(x:Operand):(ovl σ x).Rel β w (C.N β σ.h) (a.eval x):=by
 cases x with
 |tmp t =>
  simp only[ovl,Act.eval,wG];cases ht:σ.r[t]? with
  |none=>simp[V.Rel]
  |some v=>simpa using h.reg t v ht
 |const v =>
  simp only[ovl,Act.eval];split
  ·trivial
  ·trivial
  ·rename_i h1 h2;exact zUb _ (by cases v<;>first|rfl|exact absurd rfl (h1 _)|exact absurd rfl (h2 _))
 |func f=>simp only[ovl,Act.eval,V.Rel,L.Rel];exact⟨[],rfl,by simp only[L.eG]⟩
 |global g=>trivial
def gJ(k:IntKind)(op:BinOp)(x y:Int):Int :=
 let a:=BitVec.ofInt k.bits x
 let b:=BitVec.ofInt k.bits y
 match op with
 |.and=>k.wrap (a &&& b).toNat
 |.or=>k.wrap (a ||| b).toNat
 |.xor=>k.wrap (a ^^^ b).toNat
 |.andNot=>k.wrap (a &&& ~~~b).toNat
 |_=>0
def zKf (k:IntKind) (x y:Int):Int:=k.wrap (x * 2 ^ (min y.toNat k.bits))
def Di (k:IntKind) (x y:Int):Int:=x.fdiv (2 ^ (min y.toNat k.bits))
def qV:Nat:=4611686018427387904
def yVq(op:BinOp)(k:IntKind)(a b:Int):Option (Bool × L):=
 match op with
 |.add=>some (true,.val (.int k) (k.wrap (a+b)))
 |.sub=>some (true,.val (.int k) (k.wrap (a-b)))
 |.mul=>some (true,.val (.int k) (k.wrap (a*b)))
 |.quo=>some (!decide (b=0),.val (.int k) (k.wrap (a.tdiv b)))
 |.rem=>some (!decide (b=0),.val (.int k) (a.tmod b))
 |.and=>some (true,.val (.int k) (gJ k .and a b))
 |.or=>some (true,.val (.int k) (gJ k .or a b))
 |.xor=>some (true,.val (.int k) (gJ k .xor a b))
 |.andNot=>some (true,.val (.int k) (gJ k .andNot a b))
 |.eql=>some (true,.val .bool (a==b))
 |.neq=>some (true,.val .bool (a != b))
 |.lss=>some (true,.val .bool (decide (a<b)))
 |.leq=>some (true,.val .bool (decide (a<=b)))
 |.gtr=>some (true,.val .bool (decide (a>b)))
 |.geq=>some (true,.val .bool (decide (a≥b)))
 |_=>none
def yDu(op:BinOp)(k:IntKind)(a b:Int):Option (Bool × L):=
 match op with
 |.shl=>some (decide (0<=b),.val (.int k) (zKf k a b))
 |.shr=>some (decide (0<=b),.val (.int k) (Di k a b))
 |_=>none
def yVr(op:BinOp)(a b:List UInt8):Option (Bool × L):=
 match op with
 |.add=>some (decide (a.length+b.length<=qV),.val .str (a++b))
 |.eql=>some (true,.val .bool (a==b))
 |.neq=>some (true,.val .bool (!(a==b)))
 |.lss=>some (true,.val .bool (Op.bytesLess a b))
 |.leq=>some (true,.val .bool (Op.bytesLess a b||a==b))
 |.gtr=>some (true,.val .bool (!(Op.bytesLess a b||a==b)))
 |.geq=>some (true,.val .bool (!Op.bytesLess a b))
 |_=>none
def yCx(op:BinOp)(a b:Bool):Option (Bool × L):=
 match op with
 |.eql=>some (true,.val .bool (a==b))
 |.neq=>some (true,.val .bool (!(a==b)))
 |_=>none
def zXr:BinOp->Bool | .shl | .shr=>true | _=>false
def bin(op:BinOp)(x y:L):Option (Bool × L):=
 match x,y with
 |.val (.int k) a,.val (.int k') b=>if zXr op then yDu op k a b else if k=k' then yVq op k a b else none
 |.val .str a,.val .str b=>yVr op a b
 |.val .bool a,.val .bool b=>yCx op a b
 |_,_=>none
theorem toList_mk(l:List UInt8):(wC l.toArray).toList=l:=by
 rw[ByteArray.toList_eq]
theorem size_mk(l:List UInt8):(wC l.toArray).size=l.length:=by
 simp[ByteArray.size]
theorem ySc(a b:List UInt8):(wC a.toArray)++(wC b.toArray)=wC (a++b).toArray:=by
 apply ByteArray.ext;simp
section run
variable {P:Program}{β:Nat->Pl}{w:World}{N:Nat->Nat->Prop}
theorem yVs {op : BinOp} {k : IntKind} {a b : Int} {l : L} (xt : TypeId) (hs : zXr op = false) (h : yVq op k a b = some (true, l)) :
    ∃ v, (binOp op xt (.int k a) (.int k b)).run P w = .ok v w ∧ l.Rel β w N [v] := by
  cases op <;> simp only [yVq, aA, aC, reduceCtorEq, zXr] at h hs <;> (try cases hs) <;> obtain ⟨h0, rfl⟩ := h <;>
    simp only [binOp, ne_eq, not_true_eq_false, if_false, Op.intArith, Op.intBits, Op.intCmp, Op.intDiv, jI] <;> first
    | exact ⟨_, rfl, by simp only [L.Rel, Ty.Rel, gJ]⟩
    | (have hb : ¬ b = 0 := by simpa using h0
       simp only [hb, if_false, jI];exact ⟨_, rfl, by simp only [L.Rel, Ty.Rel]⟩)
theorem yNe {op : BinOp} {k k' : IntKind} {a b : Int} {l : L} (xt : TypeId) (h : yDu op k a b = some (true, l)) :
    ∃ v, (binOp op xt (.int k a) (.int k' b)).run P w = .ok v w ∧ l.Rel β w N [v] := by
  cases op <;> simp only [yDu, aA, aC, reduceCtorEq] at h <;> obtain ⟨h0, rfl⟩ := h <;>
    (have hb : ¬ b < 0 := by have := of_decide_eq_true h0; omega
     simp only [binOp, Op.shift, hb, if_false, jI];exact ⟨_, rfl, by simp only [L.Rel, Ty.Rel, zKf, Di]⟩)
theorem yVt {op : BinOp} {a b : List UInt8} {l : L} (xt : TypeId) (h : yVr op a b = some (true, l)) :
    ∃ v, (binOp op xt (.string ⟨a.toArray⟩) (.string ⟨b.toArray⟩)).run P w = .ok v w ∧ l.Rel β w N [v] := by
  cases op <;> simp only [yVr, aA, aC, reduceCtorEq] at h <;> obtain ⟨h0, rfl⟩ := h <;>
    simp only [binOp, Op.stringOp, toList_mk, size_mk, ySc, jI] <;> first
    | exact ⟨_, rfl, by simp only [L.Rel, Ty.Rel]⟩
    | (have hb : ¬ (((a.length + b.length : Nat) : Int) > IntKind.i64.max) := by
         have := of_decide_eq_true h0;simp only [qV] at this;simp only [IntKind.max, IntKind.signed, IntKind.bits];omega
       simp only [hb, if_false, jI];exact ⟨_, rfl, by simp only [L.Rel, Ty.Rel]⟩)
theorem ySd {op : BinOp} {a b : Bool} {l : L} (xt : TypeId) (ht : P.underlying xt = some .bool) (h : yCx op a b = some (true, l)) :
    ∃ v, (binOp op xt (.bool a) (.bool b)).run P w = .ok v w ∧ l.Rel β w N [v] := by
  cases op <;> simp only [yCx, aA, aC, reduceCtorEq] at h <;> obtain ⟨h0, rfl⟩ := h <;>
    (simp only [binOp, Op.equal, Op.maxDepth, jJ, run_equalIn_bool' w _ xt a b ht, kQ, jI]
     exact ⟨_, rfl, by simp only [L.Rel, Ty.Rel]⟩)
end run
end Go.Dec
namespace Go.Dec
def kS:List L->Nat->Option (List L × List L)
 |ls,0=>some ([],ls)
 |[],_+1=>none
 |l::r,n+1=>if l.size<=n+1 then(kS r (n+1-l.size)).map λp=>(l::p.1,p.2)else none
section split
variable {β:Nat->Pl}{w:World}{N:Nat->Nat->Prop}
theorem yK:∀ {ls:List L}{n:Nat}{a b:List L}{cs:List Value},kS ls n=some (a,b)->aJ β w N ls cs ->
 aJ β w N a (cs.take n)/\aJ β w N b (cs.drop n)/\n<=cs.length
 |ls,0,a,b,cs,h,hr=>by
  have:kS ls 0=some ([],ls):=by cases ls<;>rfl
  rw[this]at h;simp only[aA,aC]at h;obtain⟨rfl,rfl⟩:=h;simpa [aJ]using hr
 |[],_+1,_,_,_,h,_=>by simp[kS]at h
 |l::r,n+1,a,b,cs,h,hr=>by
  simp only[kS]at h;split at h
  ·rename_i hle;obtain⟨c1,c2,rfl,h1,h2⟩:=hr;cases hs:kS r (n+1-l.size)with
   |none=>rw[hs]at h;cases h
   |some p =>
    rw[hs]at h;simp only[kU,aA,aC]at h;obtain⟨rfl,rfl⟩:=h;obtain⟨g1,g2,g3⟩:=yK (a:=p.1) (b:=p.2) hs h2;have hl:=h1.length;refine⟨?_,?_,?_⟩
    ·rw[qAk,hl,zH (by omega)];exact⟨c1,_,rfl,h1,g1⟩
    ·rw[List.drop_append,hl,List.drop_of_length_le (by omega),List.nil_append];exact g2
    ·rw[xG];omega
  ·cases h
def Cj(ls:List L)(off size:Nat):Option (List L):=
 match kS ls off with
 |some (_,b)=>(kS b size).map (·.1)
 |none=>none
theorem xR{ls c:List L}{off size:Nat}{cs:List Value}(h:Cj ls off size=some c)(hr:aJ β w N ls cs):aJ β w N c ((cs.drop off).take size)/\off+size<=cs.length:=by
 unfold Cj at h;split at h
 ·rename_i a b hs;cases ht:kS b size with
  |none=>rw[ht]at h;cases h
  |some p =>
   rw[ht]at h;simp only[kU,aA]at h;subst h;obtain⟨_,g2,g3⟩:=yK hs hr;obtain⟨k1,_,k3⟩:=yK (a:=p.1) (b:=p.2) ht g2;rw[yV]at k3;exact⟨k1,by omega⟩
 ·cases h
def Mt(ls:List L)(off:Nat)(new:List L):Option (List L):=
 match kS ls off with
 |some (a,b)=>(kS b (sizes new)).map λp=>a++(new++p.2)
 |none=>none
theorem zBo{ls new ls':List L}{off:Nat}{cs ds:List Value}(h:Mt ls off new=some ls')(hr:aJ β w N ls cs)(hd:aJ β w N new ds):aJ β w N ls' (cs.take off++(ds++cs.drop (off+ds.length)))/\off+ds.length<=cs.length:=by
 unfold Mt at h;split at h
 ·rename_i a b hs;cases ht:kS b (sizes new)with
  |none=>rw[ht]at h;cases h
  |some p =>
   rw[ht]at h;simp only[kU,aA]at h;subst h;obtain⟨g1,g2,g3⟩:=yK hs hr;obtain⟨_,k2,k3⟩:=yK (a:=p.1) (b:=p.2) ht g2;have hl:=hd.length;rw[yV]at k3;rw[zT]at k2;refine⟨g1.append (hd.append ?_),by omega⟩;rw[hl];exact k2
 ·cases h
end split
inductive TK where
 |bool|int (k:IntKind)|str|slice (e:TypeId)|arr (n:Nat) (e:TypeId)|struct (fs:List (Nat × TypeId))|ptr (e:TypeId)|func|iface (empty:Bool)|map (k e:TypeId)|other
def TK.of:TypeDesc->TK | .bool => .bool | .int k => .int k | .string => .str | .slice e => .slice e | .array n e => .arr n e | .struct fs => .struct (fs.toList.map fun f=>(f.offset,f.type)) | .pointer e => .ptr e | .func .. => .func | .interface ms => .iface ms.isEmpty | .map k e => .map k e | _ => .other
def TK.isAgg:TK->Bool | .arr .. | .struct _=>true | _=>false
structure TI where
 k:TK
 size:Nat
 bytes:Nat
 zls:List L
 ty:Option Ty
 eqs:Bool
def jN(P:Program):Nat->TypeId->Option Ty
 |0,_=>none
 |n+1,t =>
  match P.underlying t with
  |some .bool=>some .bool
  |some (.int k)=>some (.int k)
  |some .string=>some .str
  |some (.slice e)=>(jN P n e).map .slice
  |some (.array k e)=>(jN P n e).map (.arr k)
  |some (.struct fs)=>fs.toList.foldr (λf r=>match jN P n f.type,r with|some a,some b=>some (.pair a b)|_,_=>none) (some .unit)
  |some (.interface ms)=>some (if ms.isEmpty then .opq else .err)
  |some (.func ..)=>some .opq
  |_=>none
def Ec(P:Program):Nat->TypeId->List Value->Option (List L × List Value)
 |0,_,_=>none
 |n+1,t,cs =>
  match P.underlying t with
  |some (.struct fs)=>fs.toList.foldl (λr f=>match r with|some (ls,cs)=>(Ec P n f.type cs).map λp=>(ls++p.1,p.2)|none=>none) (some ([],cs))
  |some (.array k e)=>
   match jN P n e,(qAr k).foldl (λr _=>match r with|some (ls,cs)=>(Ec P n e cs).map λp=>(ls++[p.1],p.2)|none=>none) (some ([],cs))with
   |some te,some (lss,cs)=>
    match lss.foldr (λls r=>match dS te ls,r with|some (x,[]),some xs=>some (x::xs)|_,_=>none) (some ([]:List te.den))with
    |some xs=>if xs.length=k then some ([.val (.arr k te) xs],cs)else none
    |none=>none
   |_,_=>none
  |some (.slice _)=>
   match cs with
   |.slice none 0 0::cs=>some ([.aZ],cs)
   |_=>none
  |_=>match cs with
   |c::cs=>if c.oneCell' then some ([zEi c],cs)else none
   |[]=>none
def zOK (ls:List L) (cs:List Value):Prop := ∀ (β:Nat->Pl) (w:World) (N:Nat->Nat->Prop),aJ β w N ls cs
theorem zOK.append{a b:List L}{c d:List Value}(h:zOK a c)(h':zOK b d):zOK (a++b) (c++d):=λβ w N=>(h β w N).append (h' β w N)
theorem zKg{P:Program}{n:Nat}(ih:∀ t cs ls cs',Ec P n t cs=some (ls,cs')->∃ c1,cs=c1++cs'/\zOK ls c1):∀ (fs:List Field) (ls0:List L) (cs0 ca:List Value) (ls:List L) (cs':List Value),
 zOK ls0 ca->fs.foldl (λr f=>match r with|some (ls,cs)=>(Ec P n f.type cs).map λp=>(ls++p.1,p.2)|none=>none) (some (ls0,cs0))=some (ls,cs') ->
 ∃ c1,cs0=c1++cs'/\zOK ls (ca++c1)
 |[],ls0,cs0,ca,ls,cs',h0,h=>by
  simp only[List.foldl_nil,aA,aC]at h;obtain⟨rfl,rfl⟩:=h;exact⟨[],rfl,by simpa using h0⟩
 |f::fs,ls0,cs0,ca,ls,cs',h0,h=>by
  simp only[qAs]at h;cases hz:Ec P n f.type cs0 with
  |none =>
   rw[hz]at h;simp only[zU]at h;have:∀ fs:List Field,fs.foldl (λ(r:Option (List L × List Value)) f=>match r with|some (ls,cs)=>(Ec P n f.type cs).map λp=>(ls++p.1,p.2)|none=>none) none=none:=by
    intro fs;induction fs with
    |nil=>rfl
    |cons f fs ih=>simpa using ih
   rw[this]at h;cases h
  |some p =>
   rw[hz]at h;simp only[kU]at h;obtain⟨c1,e,hz1⟩:=ih _ _ p.1 p.2 hz;obtain⟨c2,e2,hz2⟩:=zKg ih fs (ls0++p.1) p.2 (ca++c1) ls cs' (h0.append hz1) h;exact⟨c1++c2,by rw[e,e2,wE],by rwa [wE]at hz2⟩
theorem zZz{P:Program}{n:Nat}{e:TypeId}(ih:∀ t cs ls cs',Ec P n t cs=some (ls,cs')->∃ c1,cs=c1++cs'/\zOK ls c1):∀ (k:List Nat) (ls0:List (List L)) (cs0:List Value) (yDv:List (List Value)) (lss:List (List L)) (cs':List Value),
 bJ zOK ls0 yDv->k.foldl (λr _=>match r with|some (ls,cs)=>(Ec P n e cs).map λp=>(ls++[p.1],p.2)|none=>none) (some (ls0,cs0))=some (lss,cs') ->
 ∃ css,cs0=css.flatten++cs'/\bJ zOK lss (yDv++css)
 |[],ls0,cs0,yDv,lss,cs',h0,h=>by
  simp only[List.foldl_nil,aA,aC]at h;obtain⟨rfl,rfl⟩:=h;exact⟨[],rfl,by simpa using h0⟩
 |k0::k,ls0,cs0,yDv,lss,cs',h0,h=>by
  simp only[qAs]at h;cases hz:Ec P n e cs0 with
  |none =>
   rw[hz]at h;simp only[zU]at h;have:∀ k:List Nat,k.foldl (λ(r:Option (List (List L) × List Value)) _=>match r with|some (ls,cs)=>(Ec P n e cs).map λp=>(ls++[p.1],p.2)|none=>none) none=none:=by
    intro k;induction k with
    |nil=>rfl
    |cons f fs ih=>simpa using ih
   rw[this]at h;cases h
  |some p =>
   rw[hz]at h;simp only[kU]at h;obtain⟨c1,e1,hz1⟩:=ih _ _ p.1 p.2 hz;obtain⟨css,e2,hz2⟩:=zZz ih k (ls0++[p.1]) p.2 (yDv++[c1]) lss cs' (h0.append ⟨hz1,trivial⟩) h;exact⟨c1::css,by rw[e1,e2];simp,by simpa using hz2⟩
theorem zQa{te:Ty}:∀ (lss:List (List L)) (css:List (List Value)) (xs:List te.den),bJ zOK lss css ->
 lss.foldr (λls r=>match dS te ls,r with|some (x,[]),some xs=>some (x::xs)|_,_=>none) (some ([]:List te.den))=some xs ->
 ∀ (w:World) (N:Nat->Nat->Prop),bJ (λx c=>te.Rel w N x c) xs css
 |[],[],xs,_,h,w,N=>by simp at h;subst h;trivial
 |ls::lss,cs::css,xs,hz,h,w,N=>by
  simp only[List.foldr_cons]at h;split at h
  ·rename_i _ x0 xs0 hi hf;simp only[aA]at h;subst h;obtain⟨c1,c2,e,h1,h2⟩:=vJ (β:=λ_=>⟨false,false,0,none,0,0,0,[]⟩) (w:=w) (N:=N) hi (hz.1 _ _ _);simp only[aJ]at h2;subst h2;rw[vE]at e;subst e;exact⟨h1,zQa lss css xs0 hz.2 hf w N⟩
  ·cases h
theorem zRh{P:Program}:∀ (n:Nat) (t:TypeId) (cs:List Value) (ls:List L) (cs':List Value),Ec P n t cs=some (ls,cs')->∃ c1,cs=c1++cs'/\zOK ls c1
 |0,_,_,_,_,h=>by simp[Ec]at h
 |n+1,t,cs,ls,cs',h=>by
  simp only[Ec]at h;split at h
  ·rename_i fs hu;obtain⟨c1,e,hz⟩:=zKg (zRh n) fs.toList [] cs [] ls cs' (λ_ _ _=>rfl) h;exact⟨c1,e,by simpa using hz⟩
  ·rename_i k e hu;split at h
   ·rename_i _ te lss cs1 hte hf;split at h
    ·rename_i xs hxs;split at h
     ·rename_i hlen;simp only[aA,aC]at h;obtain⟨rfl,rfl⟩:=h;obtain⟨css,e1,hz⟩:=zZz (zRh n) (qAr k) [] cs [] lss cs1 trivial hf;refine⟨css.flatten,e1,λβ w N=>⟨_,[],(vE _).symm,?_,rfl⟩⟩;simp only[L.Rel,Ty.Rel];exact⟨hlen,css,rfl,zQa lss css xs (by simpa using hz) hxs w N⟩
     ·cases h
    ·cases h
   ·cases h
  ·split at h
   ·simp only[aA,aC]at h;obtain⟨rfl,rfl⟩:=h;exact⟨[.slice none 0 0],rfl,λβ w N=>aJ.single (by simp only[L.Rel])⟩
   ·cases h
  ·split at h
   ·rename_i c cs1;split at h
    ·rename_i ho;simp only[aA,aC]at h;obtain⟨rfl,rfl⟩:=h;exact⟨[c],rfl,λβ w N=>aJ.single (zUb c ho)⟩
    ·cases h
   ·cases h
def eqF (P:Program) (g:TypeId->Bool) (h:TypeId->Option Ty):Nat->List Field->Bool
 |_,[]=>true
 |off,f::fs=>f.offset==off&&!(f.name == "_")&&g f.type&&(match h f.type with|some a=>a.size==P.cellsOf f.type|none=>false)&&eqF P g h (off+P.cellsOf f.type) fs
def zBp(P:Program):Nat->TypeId->Bool
 |0,_=>false
 |n+1,t =>
  match P.underlying t with
  |some .bool|some (.int _)|some .string=>true
  |some (.struct fs)=>!P.stoodInHeld t&&eqF P (zBp P n) (jN P n) 0 fs.toList
  |some (.array _ e)=>zBp P n e&&(match jN P n e with|some a=>a.size==P.cellsOf e|none=>false)
  |_=>false
def Sr:Value->Bool | .agg _=>true | _=>false
def yVu(P:Program)(t:TypeId):Option TI :=
 match P.info? t,P.underlying t with
 |some i,some d =>
  match i.zero with
  |some z =>
   match Ec P 12 t z.cells.toList with
   |some (ls,[])=>
    if(TK.of d).isAgg==Sr z&&z.cells.size==i.size then
     some { k:=TK.of d,size:=i.size,bytes:=i.bytes,zls:=ls,ty:=jN P 12 t,eqs:=(TK.of d).isAgg&&(!P.eqGuardType P.depth t&&zBp P 12 t) }
    else none
   |_=>none
  |none=>none
 |_,_=>none
structure rM (P:Program) (t:TypeId) (ti:TI):Prop where
 i:∃ (i:TypeInfo) (z:Value),P.info? t=some i/\i.size=ti.size/\i.bytes=ti.bytes/\i.zero=some z/\zOK ti.zls z.cells.toList/\z.cells.size=i.size/\ti.k.isAgg=Sr z
 und:∃ d,P.underlying t=some d/\TK.of d=ti.k
 ty:jN P 12 t=ti.ty
 eqs:ti.eqs=true->P.eqGuardType P.depth t=false/\zBp P 12 t=true
theorem xBu{P:Program}{t:TypeId}{ti:TI}(h:yVu P t=some ti):rM P t ti:=by
 unfold yVu at h;split at h
 ·rename_i i d hi hd;split at h
  ·rename_i z hz;split at h
   ·rename_i ls hls;split at h
    ·rename_i hc;simp only[aA]at h;subst h;rw[aD]at hc;obtain⟨c1,e,hok⟩:=zRh _ _ _ _ _ hls;rw[vE]at e;refine⟨⟨i,z,hi,rfl,rfl,hz,?_,by simpa using hc.2,by simpa using hc.1⟩,⟨d,hd,rfl⟩,rfl,λh=>by simp at h;exact h.2⟩;rw[e];exact hok
    ·cases h
   ·cases h
  ·cases h
 ·cases h
abbrev Tab:=List (TypeId × TI)
def Tab.get:Tab->TypeId->Option TI
 |[],_=>none
 |p::r,t=>if vF p.1 t then some p.2 else Tab.get r t
def bU (P:Program) (T:Tab):Prop := ∀ t ti,T.get t = some ti->rM P t ti
theorem Yc{P:Program}:∀ {T:Tab},(T.map λp=>yVu P p.1)=T.map (λp=>some p.2)->bU P T
 |[],_,_,_,h=>by simp[Tab.get]at h
 |p::r,h,t,ti,ht=>by
  simp only[List.map_cons,aL]at h;simp only[Tab.get]at ht;split at ht
  ·rename_i hb;have:p.1=t:=aP hb;subst this;simp only[aA]at ht;subst ht;exact xBu h.1
  ·exact Yc h.2 t ti ht
end Go.Dec
namespace Go.Dec
def V.leaves:V->Option (List L) | .one l=>some [l] | .agg ls=>some ls | _=>none
theorem V.Mv{β:Nat->Pl}{w:World}{N:Nat->Nat->Prop}{v:V}{ls:List L}{x:Value}(h:v.leaves=some ls)(hr:v.Rel β w N x):aJ β w N ls x.cells.toList:=by
 cases v with
 |one l =>
  simp only[V.leaves,aA]at h;subst h;have h1:=L.Rel.one hr x (by simp);have:x.cells=#[x]:=by cases x<;>first|rfl|simp[kR]at h1
  rw[this];exact aJ.single hr
 |agg l =>
  simp only[V.leaves,aA]at h;subst h;obtain⟨cs,rfl,hr⟩:=hr;exact hr
 |_=>simp[V.leaves]at h
def mkV(agg:Bool)(ls:List L):Option V :=
 match agg,ls with
 |true,ls=>some (.agg ls)
 |false,[l]=>some (.one l)
 |_,_=>none
def un(op:UnOp)(x:L):Option (Bool × L):=
 match op,x with
 |.not,.val .bool b=>some (true,.val .bool (!b))
 |.neg,.val (.int k) n=>some (true,.val (.int k) (k.wrap (0-n)))
 |_,_=>none
def inB (i:Int) (n:Nat):Bool:=decide (0<=i)&&decide (i<(n:Int))
theorem Et{i:Int}{n:Nat}(h:inB i n=true):0<=i/\i<(n:Int)/\i.toNat<n:=by
 unfold inB at h;rw[aD]at h;have h1:=of_decide_eq_true h.1;have h2:=of_decide_eq_true h.2;exact⟨h1,h2,by omega⟩
def aM {α:Type} (d:α) (xs:List α) (i:Int):α:=xs.getD i.toNat d
def conv(kd:TK)(ks:TK)(x:L):Option (Bool × L):=
 match kd,ks,x with
 |.int k,_,.val (.int _) n=>some (true,.val (.int k) (k.wrap n))
 |.str,.str,.val .str s=>some (true,.val .str s)
 |.str,.slice _,.val (.slice (.int .u8)) xs=>some (true,.val .str (xs.map λn=>UInt8.ofNat n.toNat))
 |_,_,_=>none
def Yd(_h:List Ob)(l:L)(off:Nat):Option (Bool × L):=
 match l with
 |.ptr id o=>some (true,.ptr id (o+off))
 |.sK id o es i sub=>some (true,.sK id o es i (sub+off))
 |.jD id ver i o=>some (true,.jD id ver i (o+off))
 |.rJ t x o=>some (true,.rJ t x (o+off))
 |_=>none
def L.view(h:List Ob):L->L
 |.own id ver =>
  match h[id]? with
  |some (.arr _ _ _ rows _)=>.sl id ver 0 rows.length
  |some (.stk _ _ _ rows top)=>.sl id ver 0 (rows.length+Ms top)
  |_=>.bad 1
 |l=>l
def zNq(h:List Ob):L->Option (Bool × Int)
 |.val (.slice _) xs=>some (true,(xs.length:Int))
 |.aZ=>some (true,0)
 |.sl id ver _ len =>
  match h[id]? with
  |some (.arr _ _ v _ _)=>some (vF v ver,(len:Int))
  |some (.stk _ _ v _ _)=>some (vF v ver,(len:Int))
  |_=>none
 |_=>none
def Cv(T:Tab)(h:List Ob)(k:TK)(x:L)(i:Int):Option (Bool × L):=
 match k,x with
 |.slice e,.val (.slice te) xs =>
  match T.get e with
  |some ti=>if ti.size=te.size then some (inB i xs.length,.rJ te (aM te.dflt xs i) 0)else none
  |none=>none
 |.slice e,.sl id ver off len =>
  match h[id]?,T.get e with
  |some (.arr _ t v rows _),some ti=>if ti.size=t.size then some (vF v ver&&inB i len&&decide (off+len<=rows.length),.jD id ver (off+i.toNat) 0)else none
  |some (.stk _ _ v rows top),some ti=>if ti.size=4 then some (vF v ver&&inB i len&&decide (off+len<=rows.length+Ms top),.jD id ver (off+i.toNat) 0)else none
  |_,_=>none
 |.arr n e,.ptr id off =>
  match T.get e with
  |some ti=>some (inB i n,.sK id off ti.size i.toNat 0)
  |none=>none
 |.arr n e,.rJ t0 x0 off =>
  match T.get e with
  |some ti =>
   match Cj (explode t0 x0) off (n*ti.size)with
   |some [.val (.arr m te) xs]=>if m=n/\ti.size=te.size then some (inB i n,.rJ te (aM te.dflt xs i) 0)else none
   |_=>none
  |none=>none
 |_,_=>none
def loadAt(T:Tab)(h:List Ob)(t:TypeId)(x:L):Option (Bool × V):=
 match T.get t with
 |none=>none
 |some ti =>
  match x with
  |.ptr id off =>
   match h[id]? with
   |some (.box _ ls)=>
    match Cj ls off ti.size with
    |some c=>(mkV ti.k.isAgg c).map λv=>(true,v)
    |none=>none
   |_=>none
  |.sK id off es i sub =>
   match h[id]? with
   |some (.box _ ls)=>
    match kS ls off with
    |some (_,.val (.arr n te) xs::_)=>
     if te.size=es then
      match Cj (explode te (xs.getD i te.dflt)) sub ti.size with
      |some c=>(mkV ti.k.isAgg c).map λv=>(decide (i<n),v)
      |none=>none
     else none
    |_=>none
   |_=>none
  |.jD id ver i off =>
   match h[id]? with
   |some (.arr _ te v rows _)=>
    match Cj (explode te (rows.getD i te.dflt)) off ti.size with
    |some c=>(mkV ti.k.isAgg c).map λu=>(vF v ver&&decide (i<rows.length),u)
    |none=>none
   |some (.stk _ _ v rows (some ls))=>
    match Cj ls off ti.size with
    |some c=>(mkV ti.k.isAgg c).map λu=>(vF v ver&&decide (i=rows.length),u)
    |none=>none
   |some (.stk _ _ v rows none)=>
    match Cj [.val (.int .i64) (rows.getD i (0,0,[],[],())).1,.val (.int .i64) (rows.getD i (0,0,[],[],())).2.1,.bad 1,.bad 1] off ti.size with
    |some c=>(mkV ti.k.isAgg c).map λu=>(vF v ver&&decide (i<rows.length),u)
    |none=>none
   |_=>none
  |.rJ te y off =>
   match Cj (explode te y) off ti.size with
   |some c=>(mkV ti.k.isAgg c).map λv=>(true,v)
   |none=>none
  |_=>none
def idx(x:V)(i:Int):Option (Bool × V):=
 match x with
 |.one (.val .str s)=>some (inB i s.length,.one (.val (.int .u8) ((aM 0 s i).toNat:Int)))
 |_=>none
def bounds(n:Nat)(lo hi:Option Int):Bool × Nat × Nat :=
 match lo,hi with
 |none,none=>(true,0,n)
 |some l,none=>(decide (0<=l)&&decide (l<=(n:Int)),l.toNat,n)
 |none,some h=>(decide (0<=h)&&decide (h<=(n:Int)),0,h.toNat)
 |some l,some h=>(decide (0<=h)&&decide (h<=(n:Int))&&(decide (0<=l)&&decide (l<=h)),l.toNat,h.toNat)
def cut{α:Type}(xs:List α)(lo hi:Option Int):List α :=
 match lo,hi with
 |none,none=>xs
 |some l,none=>xs.drop l.toNat
 |none,some h=>xs.take h.toNat
 |some l,some h=>(xs.take h.toNat).drop l.toNat
def slice(k:TK)(x:L)(lo hi:Option Int)(hp:List Ob):Option (Bool × L):=
 match k,x with
 |.str,.val .str s=>some ((bounds s.length lo hi).1,.val .str (cut s lo hi))
 |.slice _,.val (.slice te) xs=>some ((bounds xs.length lo hi).1,.val (.slice te) (cut xs lo hi))
 |.slice _,.sl id ver off len =>
  match hp[id]? with
  |some (.arr _ _ v _ _)=>some (vF v ver&&(bounds len lo hi).1,.sl id ver (off+(bounds len lo hi).2.1) ((bounds len lo hi).2.2-(bounds len lo hi).2.1))
  |some (.stk _ _ v _ _)=>some (vF v ver&&(bounds len lo hi).1,.sl id ver (off+(bounds len lo hi).2.1) ((bounds len lo hi).2.2-(bounds len lo hi).2.1))
  |_=>none
 |_,_=>none
def build(T:Tab)(fs:List (Nat × TypeId)):List L->List (Nat × V)->Option (List L)
 |ls,[]=>some ls
 |ls,(i,v)::r =>
  match fs[i]?,v.leaves with
  |some (off,ft),some new =>
   match T.get ft with
   |some ti=>if sizes new=ti.size then
    match Mt ls off new with
    |some ls'=>build T fs ls' r
    |none=>none
    else none
   |none=>none
  |_,_=>none
def ext(x:V)(i:Nat):Option V :=
 match x with
 |.tup vs =>
  match vs[i]? with
  |some (.inl l)=>some (.one l)
  |some (.inr ls)=>some (.agg ls)
  |none=>none
 |_=>none
def qW:V->Option (IntKind×Int) | .one (.val (.int k) n)=>some (k,n) | _=>none
def xS(σ:St):Option Operand->Option (Option Int)
 |none=>some none
 |some x=>match qW (ovl σ x) with|some (_,n)=>some (some n)|none=>none
def caps(σ:St):List Operand->Option (List L)
 |[]=>some []
 |x::r =>
  match ovl σ x,caps σ r with
  |.one l,some ls=>some (l::ls)
  |_,_=>none
section
variable {P:Program}{β:Nat->Pl}{w:World}{N:Nat->Nat->Prop}{T:Tab}
theorem rM.slice{t e:TypeId}{ti:TI}(h:rM P t ti)(hk:ti.k=.slice e):P.underlying t=some (.slice e):=by
 obtain⟨d,hd,hk'⟩:=h.und;rw[hk]at hk';cases d<;>simp only[TK.of,TK.slice.injEq,reduceCtorEq]at hk'
 subst hk';exact hd
theorem rM.arr{t e:TypeId}{n:Nat}{ti:TI}(h:rM P t ti)(hk:ti.k=.arr n e):P.underlying t=some (.array n e):=by
 obtain⟨d,hd,hk'⟩:=h.und;rw[hk]at hk';cases d<;>simp only[TK.of,TK.arr.injEq,reduceCtorEq]at hk'
 obtain⟨rfl,rfl⟩:=hk';exact hd
theorem rM.str{t:TypeId}{ti:TI}(h:rM P t ti)(hk:ti.k=.str):P.underlying t=some .string:=by
 obtain⟨d,hd,hk'⟩:=h.und;rw[hk]at hk';cases d<;>simp only[TK.of,reduceCtorEq]at hk'
 exact hd
theorem rM.bool{t:TypeId}{ti:TI}(h:rM P t ti)(hk:ti.k=.bool):P.underlying t=some .bool:=by
 obtain⟨d,hd,hk'⟩:=h.und;rw[hk]at hk';cases d<;>simp only[TK.of,reduceCtorEq]at hk'
 exact hd
theorem rM.int{t:TypeId}{k:IntKind}{ti:TI}(h:rM P t ti)(hk:ti.k=.int k):P.underlying t=some (.int k):=by
 obtain⟨d,hd,hk'⟩:=h.und;rw[hk]at hk';cases d<;>simp only[TK.of,TK.int.injEq,reduceCtorEq]at hk'
 subst hk';exact hd
theorem rM.ptr{t e:TypeId}{ti:TI}(h:rM P t ti)(hk:ti.k=.ptr e):P.underlying t=some (.pointer e):=by
 obtain⟨d,hd,hk'⟩:=h.und;rw[hk]at hk';cases d<;>simp only[TK.of,TK.ptr.injEq,reduceCtorEq]at hk'
 subst hk';exact hd
theorem rM.iface{t:TypeId}{b:Bool}{ti:TI}(h:rM P t ti)(hk:ti.k=.iface b):∃ ms,P.underlying t=some (.interface ms):=by
 obtain⟨d,hd,hk'⟩:=h.und;rw[hk]at hk';cases d<;>simp only[TK.of,reduceCtorEq]at hk'
 exact⟨_,hd⟩
theorem rM.struct{t:TypeId}{fs:List (Nat × TypeId)}{ti:TI}(h:rM P t ti)(hk:ti.k=.struct fs):∃ ff:Array Field,P.underlying t=some (.struct ff)/\fs=ff.toList.map λf=>(f.offset,f.type):=by
 obtain⟨d,hd,hk'⟩:=h.und;rw[hk]at hk';cases d<;>simp only[TK.of,TK.struct.injEq,reduceCtorEq]at hk'
 exact⟨_,hd,hk'.symm⟩
theorem rM.sizeOf{t:TypeId}{ti:TI}(h:rM P t ti):(sizeOf t).run P w=.ok ti.size w:=by
 obtain⟨i,z,hi,hs,_⟩:=h.i;simp[Go.sizeOf,typeInfo,hi,hs]
theorem rM.isAgg{t:TypeId}{ti:TI}(h:rM P t ti):(Go.isAgg t).run P w=.ok ti.k.isAgg w:=by
 obtain⟨d,hd,hk⟩:=h.und;rw[<- hk];simp only[Go.isAgg,jJ,run_underlying hd,kQ];cases d<;>rfl
theorem zJo{b off:Nat}{cs:List Value}(h:Cells w b off cs):(loadCells ⟨b,off,none⟩ cs.length).run P w=.ok cs.toArray w :=
 run_loadCells_list (P:=P) w ⟨b,off,none⟩ cs λj v hv=>by
  have:=h j v hv;simpa [Addr.add_lit]using this
theorem Qa{t:TypeId}{ti:TI}(h:rM P t ti){b off:Nat}{c:List L}{cs:List Value}{v:V}(hc:Cells w b off cs)(hl:aJ β w N c cs)(hs:cs.length=ti.size)(hv:mkV ti.k.isAgg c=some v):∃ x,(loadVar t ⟨b,off,none⟩).run P w=.ok x w/\v.Rel β w N x:=by
 cases ha:ti.k.isAgg with
 |true =>
  rw[ha]at hv;simp only[mkV,aA]at hv;subst hv;refine⟨.agg cs.toArray,?_,⟨cs,rfl,hl⟩⟩;simp only[loadVar,jJ,h.isAgg,kQ,ha,if_true,h.sizeOf];rw[<- hs,zJo hc];rfl
 |false =>
  rw[ha]at hv;match c,hv with
  |[l],hv =>
   simp only[mkV,aA]at hv;subst hv;obtain⟨c1,c2,e,h1,h2⟩:=hl;simp only[aJ]at h2;subst h2;rw[vE]at e;subst e;have:ti.size=1:=by
    obtain⟨i,z,_,hsz,_,_,_,hz,hag⟩:=h.i;rw[ha]at hag;rw[<- hsz,<- hz];cases z<;>first|rfl|simp[Sr]at hag
   rw[this]at hs;obtain⟨x,rfl⟩:∃ x,cs=[x]:=by
    match cs,hs with
    |[x],_=>exact⟨x,rfl⟩
   refine⟨x,?_,h1⟩;have:=hc 0 x rfl;simp only[qAa]at this;simp[loadVar,jJ,h.isAgg,kQ,ha,run_load,this]
theorem Cells.of_heap{b:Nat}{cs:Array Value}{e:TypeId}{f:Nat × Nat}(h:w.heap[b]?=some (.cells cs e f)):Cells w b 0 cs.toList:=λj c hj=>by
 simp only[World.cell?,yY,h];simpa using hj
theorem Cells.sub{b o off n:Nat}{cs:List Value}(h:Cells w b o cs):Cells w b (o+off) ((cs.drop off).take n):=(h.drop off).take n
theorem Wn{C:Ctx}{σh:List Ob}{t:TypeId}{l:L}{v:V}{x:Value}(hT:bU C.P T)(h:loadAt T σh t l=some (true,v))(hh:fC C β σh w)(hl:l.Rel β w (C.N β σh) [x]):∃ y,(Instr.loadAt t x).run C.P w=.ok y w/\v.Rel β w (C.N β σh) y:=by
 unfold loadAt at h;split at h
 ·cases h
 ·rename_i ti hti;have hok:=hT _ _ hti;split at h
  ·rename_i id off;split at h
   ·rename_i e ls ho;split at h
    ·rename_i c hc;cases hv:mkV ti.k.isAgg c with
     |none=>rw[hv]at h;cases h
     |some v' =>
      rw[hv]at h;simp only[kU,aA,aC,true_and]at h;subst h;have hob:=hh.obj id _ ho;simp only[Ob.Rel]at hob;obtain⟨_,_,b,cs,hb,hls,hheap⟩:=hob;simp only[L.Rel]at hl;obtain⟨_,_,b',hb',hx⟩:=hl;rw[hb]at hb';simp only[aA]at hb';subst hb';simp only[aL,and_true]at hx;subst hx;obtain⟨hr,hle⟩:=xR hc hls;have hcs:=Cells.of_heap hheap;obtain⟨y,hy,hv'⟩:=Qa hok (b:=b) (off:=0+off) (hcs.sub (n:=ti.size)) hr (by simp;omega) hv;rw[yY]at hy;exact⟨y,by simpa [Instr.loadAt,vG]using hy,hv'⟩
    ·cases h
   ·cases h
  ·rename_i id off es i sub;split at h
   ·rename_i e ls ho;split at h
    ·rename_i n te xs rest hsp;split at h
     ·rename_i hes;split at h
      ·rename_i c hc;cases hv:mkV ti.k.isAgg c with
       |none=>rw[hv]at h;cases h
       |some v' =>
        rw[hv]at h;simp only[kU,aA,aC]at h;obtain⟨hi,rfl⟩:=h;have hi:=of_decide_eq_true hi;have hob:=hh.obj id _ ho;simp only[Ob.Rel]at hob;obtain⟨_,_,b,cs,hb,hls,hheap⟩:=hob;simp only[L.Rel]at hl;obtain⟨_,_,b',hb',hx⟩:=hl;rw[hb]at hb';simp only[aA]at hb';subst hb';simp only[aL,and_true]at hx;subst hx;obtain⟨_,hr,_⟩:=yK hsp hls;obtain⟨c1,c2,e1,h1,h2⟩:=hr;simp only[L.Rel,Ty.Rel]at h1;obtain⟨hn,css,e2,hall⟩:=h1;have hlen:∀ c∈css,c.length=es:=λc hc=>by
         obtain⟨y,_,hy⟩:=hall.mem_right c hc;rw[hy.length,hes]
        have hi1:i<css.length:=by rw[<- hall.length,hn];exact hi
        have hrel:=hall.get i (by rw[hn];exact hi) hi1;have hcs:=(Cells.of_heap hheap).drop off;rw[e1,e2]at hcs;have hcs:=hcs.left;have hcs2:Cells w b (0+off+i*es) css[i]:=λj c hj=>by
         have hj':j<es:=by rw[<- hlen css[i] (wU hi1)];exact(bK.1 hj).1
         have:=hcs (i*es+j) c (by rw[Gv css hlen i j hi1 hj',hj])
         rwa [show 0+off+(i*es+j)=0+off+i*es+j by omega]at this
        have hget:xs.getD i te.dflt=xs[i]'(by rw[hn];exact hi):=by
         simp only[wG];rw[wW (by rw[hn];exact hi)];rfl
        rw[hget]at hc;obtain⟨hr,hle⟩:=xR (β:=β) hc (lJ hrel);obtain⟨y,hy,hv'⟩:=Qa hok (b:=b) (off:=0+off+i*es+sub) (hcs2.sub (n:=ti.size)) hr (by simp;omega) hv;rw[yY]at hy;exact⟨y,by simpa [Instr.loadAt,vG]using hy,hv'⟩
      ·cases h
     ·cases h
    ·cases h
   ·cases h
  ·rename_i id ver i off;split at h
   ·rename_i e te vv rows wr ho;split at h
    ·rename_i c hc;cases hv:mkV ti.k.isAgg c with
     |none=>rw[hv]at h;cases h
     |some v' =>
      rw[hv]at h;simp only[kU,aA,aC,aD]at h;obtain⟨⟨kY,hi⟩,rfl⟩:=h;have kY:=aP kY;have hi:=of_decide_eq_true hi;have hob:=hh.obj id _ ho;simp only[Ob.Rel]at hob;obtain⟨_,_,hpv,hpz,hpos,zUc,hob⟩:=hob;simp only[L.Rel]at hl;obtain⟨_,_,_,c0,hc0,_,himp⟩:=hl;obtain⟨b',hb',hx⟩:=himp (by rw[hpv,kY]);simp only[aL,and_true]at hc0;subst hc0;rcases hob with ⟨hnb,_⟩|⟨b,cur,css,hb,hheap,hall,htake,hcap,_,_⟩
      ·rw[hnb]at hb';cases hb'
      ·rw[hb]at hb';simp only[aA]at hb';subst hb';subst hx;have hlen:∀ c∈css,c.length=te.size:=λc hc=>by
        obtain⟨y,_,hy⟩:=hall.mem_right c hc;exact hy.length
       have hi1:i<css.length:=by rw[<- hall.length];exact hi
       have hrel:=hall.get i hi hi1;have hcs:=(Cells.of_heap hheap).take (rows.length*te.size);rw[htake]at hcs;have hcs2:Cells w b (0+i*te.size) css[i]:=λj c hj=>by
        have hj':j<te.size:=by rw[<- hlen css[i] (wU hi1)];exact(bK.1 hj).1
        have:=hcs (i*te.size+j) c (by rw[Gv css hlen i j hi1 hj',hj])
        rwa [show 0+(i*te.size+j)=0+i*te.size+j by omega]at this
       have hget:rows.getD i te.dflt=rows[i]:=by
        simp only[wG];rw[wW hi];rfl
       rw[hget]at hc;obtain⟨hr,hle⟩:=xR (β:=β) hc (lJ hrel);obtain⟨y,hy,hv'⟩:=Qa hok (b:=b) (off:=0+i*te.size+off) (hcs2.sub (n:=ti.size)) hr (by simp;omega) hv;rw[yY]at hy;exact⟨y,by simpa [Instr.loadAt,vG,hpz]using hy,hv'⟩
    ·cases h
   ·rename_i e ei vv rows ls ho;split at h
    ·rename_i c hc;cases hv:mkV ti.k.isAgg c with
     |none=>rw[hv]at h;cases h
     |some v' =>
      rw[hv]at h;simp only[kU,aA,aC,aD]at h;obtain⟨⟨kY,hi⟩,rfl⟩:=h;have kY:=aP kY;have hi:=of_decide_eq_true hi;subst hi;have hob:=hh.obj id _ ho;simp only[Ob.Rel]at hob;obtain⟨_,_,hpv,hpz,hpl,b,cur,cs,cs2,bs,hb,hheap,hcap,_,_,_,_,_,hfr,htop,htake⟩:=hob;simp only[L.Rel]at hl;obtain⟨_,_,_,c0,hc0,_,himp⟩:=hl;obtain⟨b',hb',hx⟩:=himp (by rw[hpv,kY]);simp only[aL,and_true]at hc0;subst hc0;rw[hb]at hb';simp only[aA]at hb';subst hb';subst hx;obtain⟨hls,hl4⟩:=htop;have hcs:=(Cells.of_heap hheap).take ((β id).len*4);rw[htake]at hcs;have hcs2:=hcs.right;rw[hfr.length]at hcs2;obtain⟨hr,hle⟩:=xR hc hls;obtain⟨y,hy,hv'⟩:=Qa hok (b:=b) (off:=0+rows.length*4+off) (hcs2.sub (n:=ti.size)) hr (by simp;omega) hv;rw[yY]at hy;exact⟨y,by simpa [Instr.loadAt,vG,hpz]using hy,hv'⟩
    ·cases h
   ·rename_i e ei vv rows ho;split at h
    ·rename_i c hc;cases hv:mkV ti.k.isAgg c with
     |none=>rw[hv]at h;cases h
     |some v' =>
      rw[hv]at h;simp only[kU,aA,aC,aD]at h;obtain⟨⟨kY,hi⟩,rfl⟩:=h;have kY:=aP kY;have hi:=of_decide_eq_true hi;have hob:=hh.obj id _ ho;simp only[Ob.Rel]at hob;obtain⟨_,_,hpv,hpz,hpl,b,cur,cs,cs2,bs,hb,hheap,hcap,_,_,_,_,_,hfr,htop,htake⟩:=hob;simp only[Yb]at htop;subst htop;simp only[L.Rel]at hl;obtain⟨_,_,_,c0,hc0,_,himp⟩:=hl;obtain⟨b',hb',hx⟩:=himp (by rw[hpv,kY]);simp only[aL,and_true]at hc0;subst hc0;rw[hb]at hb';simp only[aA]at hb';subst hb';subst hx;have hcs:=(Cells.of_heap hheap).take ((β id).len*4);rw[htake,vE]at hcs;obtain⟨u1,u2,gg,o1,o2⟩:=hfr.get i rows[i] (by simp[hi]);have hcs2:Cells w b (0+i*4) [.int .i64 rows[i].1,.int .i64 rows[i].2.1,u1,u2]:=by
       rw[<- gg];exact hcs.sub (off:=i*4) (n:=4)
      have hget:rows.getD i (0,0,[],[],())=rows[i]:=by
       simp only[wG];rw[wW hi];rfl
      rw[hget]at hc;have hls:aJ β w (C.N β σh) [.val (.int .i64) rows[i].1,.val (.int .i64) rows[i].2.1,.bad 1,.bad 1] [.int .i64 rows[i].1,.int .i64 rows[i].2.1,u1,u2]:=by
       refine⟨[_],_,rfl,by simp only[L.Rel,Ty.Rel],[_],_,rfl,by simp only[L.Rel,Ty.Rel],[u1],[u2],rfl,?_,[u2],[],rfl,?_,rfl⟩
       ·simp only[L.Rel];exact⟨rfl,λc hc=>by simp at hc;subst hc;exact o1⟩
       ·simp only[L.Rel];exact⟨rfl,λc hc=>by simp at hc;subst hc;exact o2⟩
      obtain⟨hr,hle⟩:=xR hc hls;obtain⟨y,hy,hv'⟩:=Qa hok (b:=b) (off:=0+i*4+off) (hcs2.sub (n:=ti.size)) hr (by simp at hle ⊢;omega) hv;rw[yY]at hy;exact⟨y,by simpa [Instr.loadAt,vG,hpz]using hy,hv'⟩
    ·cases h
   ·cases h
  ·rename_i te y off;split at h
   ·rename_i c hc;cases hv:mkV ti.k.isAgg c with
    |none=>rw[hv]at h;cases h
    |some v' =>
     rw[hv]at h;simp only[kU,aA,aC,true_and]at h;subst h;simp only[L.Rel]at hl;obtain⟨c0,hc0,b,o,cs,rfl,hb,hn,hrel,hcs⟩:=hl;simp only[aL,and_true]at hc0;subst hc0;obtain⟨hr,hle⟩:=xR (β:=β) hc (lJ hrel);obtain⟨y,hy,hv'⟩:=Qa hok (b:=b) (off:=o+off) (hcs.sub (n:=ti.size)) hr (by simp;omega) hv;exact⟨y,by simpa [Instr.loadAt,vG]using hy,hv'⟩
   ·cases h
  ·cases h
end
end Go.Dec
namespace Go.Dec
section
variable {β:Nat->Pl}{w:World}{T:Tab}{C:Ctx}
theorem addr_add(b o n:Nat):(⟨b,o,none⟩:Addr).add n=⟨b,o+n,none⟩:=by
 simp[Addr.add_lit]
theorem zRi{σh:List Ob}{l:L}{cs:List Value}(hh:fC C β σh w)(hl:l.Rel β w (C.N β σh) cs):(l.view σh).Rel β w (C.N β σh) cs:=by
 cases l with
 |own id ver =>
  simp only[L.view];split
  ·rename_i e t v rows wr ho;have hob:=hh.obj _ _ ho;simp only[Ob.Rel]at hob;obtain⟨_,_,_,_,_,hlen,_⟩:=hob;simp only[L.Rel]at hl ⊢
   rwa [hlen]at hl
  ·rename_i e ei v rows top ho;have hob:=hh.obj _ _ ho;simp only[Ob.Rel]at hob;obtain⟨_,_,_,_,hlen,_⟩:=hob;simp only[L.Rel]at hl ⊢
   rwa [hlen]at hl
  ·simp only[L.Rel]at hl ⊢;obtain⟨_,_,_,c,rfl,hc,_⟩:=hl;exact⟨rfl,by intro x hx;simp at hx;subst hx;exact hc⟩
 |_=>exact hl
theorem yJm{σh:List Ob}{t:TypeId}{ti:TI}{l l':L}{x:Value}{k:IntKind}{i:Int}(hT:bU C.P T)(ht:T.get t=some ti)(h:Cv T σh ti.k l i=some (true,l'))(hh:fC C β σh w)(hl:l.Rel β w (C.N β σh) [x]):∃ y,(Instr.indexAt t x (.int k i)).run C.P w=.ok y w/\l'.Rel β w (C.N β σh) [y]:=by
 have hok:=hT _ _ ht;unfold Cv at h;split at h
 ·rename_i e te xs hk;split at h
  ·rename_i tie hte;split at h
   ·rename_i hsz;simp only[aA,aC]at h;obtain⟨hi,rfl⟩:=h;obtain⟨h0,h1,h2⟩:=Et hi;simp only[L.Rel,Ty.Rel]at hl;obtain⟨x',e1,hs⟩:=hl;simp only[aL,and_true]at e1;subst e1;rcases hs with ⟨_,rfl⟩|⟨b,off,cap,css,rfl,hb,hn,hlc,hm,hall,hlen,hcs⟩|⟨_,_,_,rfl,_⟩
    rotate_left 2
    ·simp at h2
    ·simp at h2
    ·have hi1:i.toNat<css.length:=by rw[<- hall.length];exact h2
     have hrel:=hall.get i.toNat h2 hi1;have hcs2:Cells w b (off+i.toNat*te.size) css[i.toNat]:=λj c hj=>by
      have hj':j<te.size:=by rw[<- hlen css[i.toNat] (wU hi1)];exact(bK.1 hj).1
      have:=hcs (i.toNat*te.size+j) c (by rw[Gv css hlen i.toNat j hi1 hj',hj])
      rwa [show off+(i.toNat*te.size+j)=off+i.toNat*te.size+j by omega]at this
     have hget:aM te.dflt xs i=xs[i.toNat]:=by
      simp only[aM,wG];rw[wW h2];rfl
     refine⟨.pointer (some ⟨b,off+i.toNat*te.size,none⟩),?_,?_⟩
     ·simp only[Instr.indexAt,asIntOf,jJ,jI,kQ,run_underlying (hok.slice hk),h0,h1,and_self,if_true,(hT _ _ hte).sizeOf,addr_add,hsz]
     ·simp only[L.Rel];exact⟨_,rfl,b,off+i.toNat*te.size,css[i.toNat],rfl,hb,λj g1 g2=>hn j (by omega) (by rw[hlen _ (wU hi1)]at g2;have:=zZy (n:=te.size) h2;omega),by rw[hget];exact hrel,hcs2⟩
   ·cases h
  ·cases h
 ·rename_i e id ver off len hk;split at h
  ·rename_i _ _ e' te v rows wr tie ho hte;split at h
   ·rename_i hsz;simp only[aA,aC,aD]at h;obtain⟨⟨⟨kY,hi⟩,hle⟩,rfl⟩:=h;have kY:=aP kY;have hle:=of_decide_eq_true hle;obtain⟨h0,h1,h2⟩:=Et hi;have hob:=hh.obj id _ ho;simp only[Ob.Rel]at hob;obtain⟨hlive,nH,hpv,hpz,hpos,zUc,hob⟩:=hob;simp only[L.Rel]at hl;obtain⟨_,_,_,c0,hc0,_,himp⟩:=hl;have hsl:=himp (by rw[hpv,kY]);simp only[aL,and_true]at hc0;subst hc0;unfold eP at hsl;rcases hob with ⟨hnb,hr0,_⟩|⟨b,cur,css,hb,hheap,hall,htake,hcap,_,_⟩
    ·rw[hnb]at hsl;simp only at hsl;omega
    ·rw[hb]at hsl;simp only at hsl;obtain⟨hoff,o,rfl,ho'⟩:=hsl;have ho':o=off*(β id).size:=by
      rcases ho' with h|h
      ·exact h
      ·omega
     refine⟨.pointer (some ⟨b,o+i.toNat*te.size,none⟩),?_,?_⟩
     ·simp only[Instr.indexAt,asIntOf,jJ,jI,kQ,run_underlying (hok.slice hk),h0,h1,and_self,if_true,(hT _ _ hte).sizeOf,addr_add,hsz]
     ·simp only[L.Rel];refine⟨hlive,nH,by omega,_,rfl,⟨_,_,rfl⟩,λ_=>⟨b,hb,?_⟩⟩;rw[ho',hpz,zB,qAa]
   ·cases h
  ·rename_i _ _ e' ei v rows top tie ho hte;split at h
   ·rename_i hsz;simp only[aA,aC,aD]at h;obtain⟨⟨⟨kY,hi⟩,hle⟩,rfl⟩:=h;have kY:=aP kY;have hle:=of_decide_eq_true hle;obtain⟨h0,h1,h2⟩:=Et hi;have hob:=hh.obj id _ ho;simp only[Ob.Rel]at hob;obtain⟨hlive,nH,hpv,hpz,zUc,b,cur,cs,cs2,bs,hb,hheap,hcap,hlc,hob⟩:=hob;simp only[L.Rel]at hl;obtain⟨_,_,_,c0,hc0,_,himp⟩:=hl;have hsl:=himp (by rw[hpv,kY]);simp only[aL,and_true]at hc0;subst hc0;unfold eP at hsl;rw[hb]at hsl;simp only at hsl;obtain⟨hoff,o,rfl,ho'⟩:=hsl;have ho':o=off*(β id).size:=by
     rcases ho' with h|h
     ·exact h
     ·omega
    refine⟨.pointer (some ⟨b,o+i.toNat*4,none⟩),?_,?_⟩
    ·simp only[Instr.indexAt,asIntOf,jJ,jI,kQ,run_underlying (hok.slice hk),h0,h1,and_self,if_true,(hT _ _ hte).sizeOf,addr_add,hsz]
    ·simp only[L.Rel];refine⟨hlive,nH,by omega,_,rfl,⟨_,_,rfl⟩,λ_=>⟨b,hb,?_⟩⟩;rw[ho',hpz,zB,qAa]
   ·cases h
  ·cases h
 ·rename_i n e id off hk;split at h
  ·rename_i tie hte;simp only[aA,aC]at h;obtain⟨hi,rfl⟩:=h;obtain⟨h0,h1,h2⟩:=Et hi;simp only[L.Rel]at hl;obtain⟨hlive,nH,b,hb,hx⟩:=hl;simp only[aL,and_true]at hx;subst hx;refine⟨.pointer (some ⟨b,off+i.toNat*tie.size,none⟩),?_,?_⟩
   ·simp only[Instr.indexAt,asIntOf,jJ,jI,kQ,run_underlying (hok.arr hk),vG,h0,h1,and_self,if_true,(hT _ _ hte).sizeOf,addr_add]
   ·simp only[L.Rel];exact⟨hlive,nH,b,hb,rfl⟩
  ·cases h
 ·rename_i n e t0 x0 off hk;split at h
  ·rename_i tie hte;split at h
   ·rename_i m te xs htk;split at h
    ·rename_i hc;obtain⟨rfl,hsz⟩:=hc;simp only[aA,aC]at h;obtain⟨hi,rfl⟩:=h;obtain⟨h0,h1,h2⟩:=Et hi;simp only[L.Rel]at hl;obtain⟨c0,hc0,b,o,cs,rfl,hb,hn,hrel,hcs⟩:=hl;simp only[aL,and_true]at hc0;subst hc0;obtain⟨hr,hle⟩:=xR (β:=β) htk (lJ hrel);obtain⟨d1,d2,e1,hr1,hr2⟩:=hr;simp only[aJ]at hr2;subst hr2;rw[vE]at e1;simp only[L.Rel,Ty.Rel]at hr1;obtain⟨hxl,css,e2,hall⟩:=hr1;have hlen:∀ c∈css,c.length=te.size:=λc hc=>by
      obtain⟨y,_,hy⟩:=hall.mem_right c hc;exact hy.length
     have hi0:i.toNat<xs.length:=by rw[hxl];exact h2
     have hi1:i.toNat<css.length:=by rw[<- hall.length];exact hi0
     have xIn:=hall.get i.toNat hi0 hi1;have hcs2:=hcs.sub (off:=off) (n:=m*tie.size);rw[e1,e2]at hcs2;have xKc:Cells w b (o+off+i.toNat*te.size) css[i.toNat]:=λj c hj=>by
      have hj':j<te.size:=by rw[<- hlen css[i.toNat] (wU hi1)];exact(bK.1 hj).1
      have:=hcs2 (i.toNat*te.size+j) c (by rw[Gv css hlen i.toNat j hi1 hj',hj])
      rwa [show o+off+(i.toNat*te.size+j)=o+off+i.toNat*te.size+j by omega]at this
     have hget:aM te.dflt xs i=xs[i.toNat]:=by
      simp only[aM,wG];rw[wW hi0];rfl
     refine⟨.pointer (some ⟨b,o+off+i.toNat*te.size,none⟩),?_,?_⟩
     ·simp only[Instr.indexAt,asIntOf,jJ,jI,kQ,run_underlying (hok.arr hk),vG,h0,h1,and_self,if_true,(hT _ _ hte).sizeOf,addr_add,hsz]
     ·simp only[L.Rel];have hln:css.flatten.length<=cs.length-off:=by
       rw[<- e2,<- e1,qAb,yV];exact Nat.min_le_right _ _
      have hoff:css.flatten.length=xs.length*te.size:=by rw[cZ css hlen,<- hall.length]
      exact⟨_,rfl,b,o+off+i.toNat*te.size,css[i.toNat],rfl,hb,λj g1 g2=>hn j (by omega) (by
       rw[hlen _ (wU hi1)]at g2;have:=zZy (n:=te.size) hi0;omega),by rw[hget];exact xIn,xKc⟩
    ·cases h
   ·cases h
  ·cases h
 ·cases h
theorem yDw{σh:List Ob}{s ft:TypeId}{ti tf:TI}{fs:List (Nat × TypeId)}{f off:Nat}{l l':L}{x:Value}(hT:bU C.P T)(ht:T.get s=some ti)(hk:ti.k=.struct fs)(hf:fs[f]?=some (off,ft))(htf:T.get ft=some tf)(hz:0<tf.size)(h:Yd σh l off=some (true,l'))(hh:fC C β σh w)(hl:l.Rel β w (C.N β σh) [x]):∃ y,(Instr.fieldAt s x f).run C.P w=.ok y w/\l'.Rel β w (C.N β σh) [y]:=by
 obtain⟨ff,hu,rfl⟩:=(hT _ _ ht).struct hk;simp only[List.getElem?_map,Option.map_eq_some_iff,aC,Array.getElem?_toList]at hf;obtain⟨fld,xKd,rfl,rfl⟩:=hf;have xEe:∀ (b o:Nat),(fieldPlace ⟨b,o,none⟩ fld).run C.P w=.ok ⟨b,o+fld.offset,none⟩ w:=λb o=>by
  have:¬ tf.size=0:=by omega
  simp only[fieldPlace,jJ,(hT _ _ htf).sizeOf,kQ,this,if_false,jI,addr_add]
 have hrun:∀ (b o:Nat),x=.pointer (some ⟨b,o,none⟩)->(Instr.fieldAt s x f).run C.P w=.ok (.pointer (some ⟨b,o+fld.offset,none⟩)) w:=λb o hx=>by
  subst hx;simp only[Instr.fieldAt,jJ,run_underlying hu,kQ,xKd,vG,jI,xEe]
 cases l<;>simp only[Yd,reduceCtorEq,aA,aC,true_and]at h
 ·subst h;simp only[L.Rel]at hl ⊢;obtain⟨h1,h2,b,hb,hx⟩:=hl;simp only[aL,and_true]at hx;exact⟨_,hrun b _ hx,h1,h2,b,hb,rfl⟩
 ·subst h;simp only[L.Rel]at hl ⊢;obtain⟨h1,h2,b,hb,hx⟩:=hl;simp only[aL,and_true]at hx;exact⟨_,hrun b _ hx,h1,h2,b,hb,by rw[zD]⟩
 ·subst h;simp only[L.Rel]at hl ⊢;obtain⟨h1,h2,h3,c0,hc0,⟨q,o,rfl⟩,himp⟩:=hl;simp only[aL,and_true]at hc0;refine⟨_,hrun q _ hc0,h1,h2,h3,_,rfl,⟨_,_,rfl⟩,λhv=>?_⟩;obtain⟨b,hb,hx⟩:=himp hv;simp only[Value.pointer.injEq,aA,Addr.mk.injEq,and_true]at hx;obtain⟨rfl,rfl⟩:=hx;exact⟨_,hb,by rw[zD]⟩
 ·subst h;simp only[L.Rel]at hl ⊢;obtain⟨c0,hc0,b,o,cs,hx,hb,hn,hrel,hcs⟩:=hl;simp only[aL,and_true]at hc0;subst hc0;exact⟨_,hrun b _ hx,_,rfl,b,o,cs,by rw[zD],hb,hn,hrel,hcs⟩
theorem xBv{σh:List Ob}{t:TypeId}{ti:TI}{v v':V}{x:Value}{k:IntKind}{i:Int}(hT:bU C.P T)(ht:T.get t=some ti)(hk:ti.k=.str)(h:idx v i=some (true,v'))(hl:v.Rel β w (C.N β σh) x):∃ y,(Instr.index t x (.int k i)).run C.P w=.ok y w/\v'.Rel β w (C.N β σh) y:=by
 unfold idx at h;split at h
 ·rename_i s;simp only[aA,aC]at h;obtain⟨hi,rfl⟩:=h;obtain⟨h0,h1,h2⟩:=Et hi;simp only[V.Rel,L.Rel,Ty.Rel,aL,and_true]at hl;subst hl;have hget:aM 0 s i=s[i.toNat]:=by
   simp only[aM,wG];rw[wW h2];rfl
  have hb:(wC s.toArray)[i.toNat]?=some s[i.toNat]:=by
   have hsz:i.toNat<(wC s.toArray).size:=by rw[size_mk];exact h2
   rw[getElem?_pos (wC s.toArray) i.toNat hsz];rfl
  refine⟨.int .u8 s[i.toNat].toNat,?_,?_⟩
  ·simp only[Instr.index,asIntOf,jJ,jI,kQ,run_underlying ((hT _ _ ht).str hk),h0,if_true,hb]
  ·simp only[V.Rel,L.Rel,Ty.Rel,hget]
 ·cases h
theorem xU{isSlice:Bool}{n cap:Nat}{lo hi:Option Int}{kl kh:IntKind}(hc:n<=cap)(h:(bounds n lo hi).1=true):(Instr.sliceBounds isSlice n cap (lo.map (.int kl)) (hi.map (.int kh)) none).run C.P w=.ok ((bounds n lo hi).2.1,(bounds n lo hi).2.2,cap) w/\(bounds n lo hi).2.1<=(bounds n lo hi).2.2/\(bounds n lo hi).2.2<=n:=by
 cases lo with
 |none =>
  cases hi with
  |none=>simp[Instr.sliceBounds,bounds]
  |some y =>
   simp only[bounds,aD,decide_eq_true_eq]at h;have hy:y<=(cap:Int):=by omega
   simp only[Instr.sliceBounds,zU,kU,jJ,jI,kQ,Instr.sliceBound,asIntOf,h.1,hy,and_self,if_true,bounds];exact⟨trivial,by omega,by omega⟩
 |some x =>
  cases hi with
  |none =>
   simp only[bounds,aD,decide_eq_true_eq]at h;simp only[Instr.sliceBounds,zU,kU,jJ,jI,kQ,Instr.sliceBound,asIntOf,h.1,h.2,and_self,if_true,bounds];exact⟨trivial,by omega,by omega⟩
  |some y =>
   simp only[bounds,aD,decide_eq_true_eq]at h;have hy:y<=(cap:Int):=by omega
   have hx:x<=((y.toNat:Nat):Int):=by omega
   simp only[Instr.sliceBounds,kU,jJ,jI,kQ,Instr.sliceBound,asIntOf,h.1.1,hy,h.2.1,hx,and_self,if_true,bounds];exact⟨trivial,by omega,by omega⟩
theorem zUd{α:Type}(xs:List α)(lo hi:Option Int)(h:(bounds xs.length lo hi).1=true):cut xs lo hi=(xs.take (bounds xs.length lo hi).2.2).drop (bounds xs.length lo hi).2.1:=by
 cases lo<;>cases hi<;>simp[cut,bounds]
theorem extract_mk(s:List UInt8)(a b:Nat):(wC s.toArray).extract a b=wC ((s.take b).drop a).toArray:=by
 apply ByteArray.ext;rw[ByteArray.data_extract];simp[List.extract_eq_take_drop,qAl]
theorem yVv{σh:List Ob}{t e:TypeId}{ti tie:TI}{te:Ty}{xs:List te.den}{x:Value}{k1 k2:IntKind}(hT:bU C.P T)(ht:T.get t=some ti)(hk:ti.k=.slice e)(hte:T.get e=some tie)(hsz:tie.size=te.size)(hl:(L.val (.slice te) xs).Rel β w (C.N β σh) [x]):∃ y,(wB t x none (some (.int k1 (xs.length:Int))) (some (.int k2 (xs.length:Int)))).run C.P w=.ok y w/\(Ty.clip te).Rel w (C.N β σh) xs [y]:=by
 have hu:=(hT _ _ ht).slice hk;simp only[L.Rel,Ty.Rel]at hl;obtain⟨x',e1,hs⟩:=hl;simp only[aL,and_true]at e1;subst e1;have run:∀ (ad:Option Addr) (cap:Nat),xs.length<=cap->(wB t (.slice ad xs.length cap) none (some (.int k1 (xs.length:Int))) (some (.int k2 (xs.length:Int)))).run C.P w=.ok (.slice (if xs.length=0 then ad else ad.map (·.add (0*tie.size))) xs.length xs.length) w:=by
  intro ad cap hc;have hc':(xs.length:Int)<=(cap:Int):=by omega
  have h0:(0:Int)<=(xs.length:Int):=by omega
  simp only[wB,Instr.slice,jJ,run_underlying hu,kQ,Instr.sliceBounds,Instr.sliceBound,asIntOf,jI,hc',h0,Int.le_refl,and_self,if_true,Int.toNat_natCast,(hT _ _ hte).sizeOf,Nat.sub_zero]
 rcases hs with ⟨rfl,rfl⟩|⟨b,off,cap,css,rfl,hb,hn,hlc,hm,hr,hz,hc⟩|⟨ad,cap,rfl,rfl,hm⟩
 ·exact⟨_,run none 0 (aS _),_,rfl,.inl ⟨rfl,rfl⟩,_,_,rfl⟩
 ·refine⟨_,run (some ⟨b,off,none⟩) cap hlc,_,rfl,.inr (.inl ⟨b,off,xs.length,css,?_,hb,hn,aS _,by omega,hr,hz,hc⟩),_,_,rfl⟩;split<;>simp[addr_add]
 ·exact⟨_,run (some ad) cap (qAm _),_,rfl,.inr (.inr ⟨ad,0,rfl,rfl,qAm _⟩),_,_,rfl⟩
theorem ySe{σh:List Ob}{t:TypeId}{ti:TI}{l l':L}{x:Value}{lo hi:Option Int}{kl kh:IntKind}(hT:bU C.P T)(ht:T.get t=some ti)(h:slice ti.k l lo hi σh=some (true,l'))(hh:fC C β σh w)(hl:l.Rel β w (C.N β σh) [x])(hte:∀ e,ti.k=.slice e->∃ te,T.get e=some te/\(∀ a xs,l=.val (.slice a) xs->a.size=te.size)/\(∀ id ver off len,l=.sl id ver off len->te.size=(β id).size)):∃ y,(wB t x (lo.map (.int kl)) (hi.map (.int kh)) none).run C.P w=.ok y w/\l'.Rel β w (C.N β σh) [y]:=by
 have hok:=hT _ _ ht;unfold slice at h;split at h
 ·rename_i s hk;simp only[aA,aC]at h;obtain⟨hb,rfl⟩:=h;simp only[L.Rel,Ty.Rel,aL,and_true]at hl;subst hl;have hu:=hok.str hk;obtain⟨hr,_,_⟩:=xU (C:=C) (w:=w) (isSlice:=false) (kl:=kl) (kh:=kh) (aS _) hb;refine⟨.string ⟨(cut s lo hi).toArray⟩,?_,by simp only[L.Rel,Ty.Rel]⟩;simp only[wB,Instr.slice,jJ,run_underlying hu,kQ,Option.isSome_none,Bool.false_eq_true,if_false,size_mk,hr,jI,extract_mk,zUd s lo hi hb]
 ·rename_i e te xs hk;simp only[aA,aC]at h;obtain⟨hb,rfl⟩:=h;obtain⟨tie,htie,hsz,_⟩:=hte e hk;have hsz:=hsz te xs rfl;simp only[L.Rel,Ty.Rel]at hl;obtain⟨x',e1,hs⟩:=hl;simp only[aL,and_true]at e1;subst e1;have hu:=hok.slice hk;rcases hs with ⟨rfl,rfl⟩|⟨b,off,cap,css,rfl,hbl,hn,hlc,hm,hall,hlen,hcs⟩|⟨ad,cap,rfl,rfl,hcm⟩
  rotate_left 2
  ·obtain⟨hr,h3,h4⟩:=xU (C:=C) (w:=w) (isSlice:=true) (kl:=kl) (kh:=kh) (qAm cap) hb;have hcut:cut ([]:List te.den) lo hi=[]:=by rw[zUd _ _ _ hb];simp
   have h5:(bounds 0 lo hi).2.2=0:=by simpa using h4
   have h6:(bounds 0 lo hi).2.1=0:=by omega
   refine⟨.slice (some (if cap=0 then ad else ad.add (0*tie.size))) 0 cap,?_,by simp only[L.Rel,Ty.Rel,hcut];exact⟨_,rfl,.inr (.inr ⟨_,_,rfl,rfl,hcm⟩)⟩⟩;simp only[wB,Instr.slice,jJ,run_underlying hu,kQ,hr,(hT _ _ htie).sizeOf,jI,h5,h6];split<;>rfl
  ·obtain⟨hr,h3,h4⟩:=xU (C:=C) (w:=w) (isSlice:=true) (kl:=kl) (kh:=kh) (aS 0) hb;have hcut:cut ([]:List te.den) lo hi=[]:=by rw[zUd _ _ _ hb];simp
   have h5:(bounds 0 lo hi).2.2=0:=by simpa using h4
   have h6:(bounds 0 lo hi).2.1=0:=by omega
   refine⟨.slice none 0 0,?_,by simp only[L.Rel,Ty.Rel,hcut];exact⟨_,rfl,.inl ⟨rfl,rfl⟩⟩⟩;simp only[wB,Instr.slice,jJ,run_underlying hu,kQ,hr,(hT _ _ htie).sizeOf,jI,h5,h6];rfl
  ·obtain⟨hr,h3,h4⟩:=xU (C:=C) (w:=w) (isSlice:=true) (kl:=kl) (kh:=kh) hlc hb;generalize hlo:(bounds xs.length lo hi).2.1=a at *;generalize hhi:(bounds xs.length lo hi).2.2=c at *;have hcut:cut xs lo hi=(xs.take c).drop a:=by rw[zUd _ _ _ hb,hlo,hhi]
   have yNf:((xs.take c).drop a).length=c-a:=by simp;omega
   refine⟨.slice (some (if cap=a then⟨b,off,none⟩else(⟨b,off,none⟩:Addr).add (a*tie.size))) (c-a) (cap-a),?_,?_⟩
   ·simp only[wB,Instr.slice,jJ,run_underlying hu,kQ,hr,(hT _ _ htie).sizeOf,jI];split<;>rfl
   ·simp only[L.Rel,Ty.Rel];refine⟨_,rfl,.inr (.inl ⟨b,if cap=a then off else off+a*tie.size,cap-a,(css.take c).drop a,?_,hbl,?_,?_,by omega,?_,?_,?_⟩)⟩
    rotate_left 1
    ·intro j g1 g2;rw[hcut,yNf]at g2;split at g1
     ·rename_i hca;rw[if_pos hca]at g2;have:c-a=0:=by omega
      rw[this]at g2;omega
     ·rename_i hca;rw[if_neg hca]at g2;rw[<- hsz]at g1 g2;have hc2:c<=xs.length:=by omega
      rcases Nat.le_total a c with hac|hac
      ·have:=yMz (n:=te.size) hc2 hac;exact hn j (by omega) (by omega)
      ·rw[show c-a=0 by omega]at g2;omega
    rotate_left 4
    ·rw[hcut,yNf];split<;>simp[addr_add]
    ·rw[hcut,yNf];omega
    ·rw[hcut];exact(hall.take c).drop a
    ·intro d hd;exact hlen d (qAt (List.mem_of_mem_drop hd))
    ·have yCy:=hall.length;split
     ·rename_i hca;have:(css.take c).drop a=[]:=by apply List.drop_eq_nil_of_le;simp;omega
      rw[this];exact Cells.nil
     ·have h1:((css.take c).drop a).flatten=(css.flatten.take (c*te.size)).drop (a*te.size):=by
       rw[sJ css hlen,pF (css.take c) λd hd=>hlen d (qAt hd)]
      rw[h1,<- hsz];exact(hcs.take _).drop _
 ·rename_i e id ver off len hk;split at h
  ·rename_i e' te v rows wr ho;simp only[aA,aC,aD]at h;obtain⟨⟨kY,hb⟩,rfl⟩:=h;have kY:=aP kY;obtain⟨tie,htie,_,hsz⟩:=hte e hk;have hsz:=hsz id ver off len rfl;have hob:=hh.obj id _ ho;simp only[Ob.Rel]at hob;obtain⟨hlive,nH,hpv,hpz,hpos,zUc,hob⟩:=hob;simp only[L.Rel]at hl;obtain⟨_,_,yDx,c0,hc0,_,himp⟩:=hl;have hsl:=himp (by rw[hpv,kY]);simp only[aL,and_true]at hc0;subst hc0;have hu:=hok.slice hk;unfold eP at hsl;split at hsl
   ·rename_i hnb;obtain⟨rfl,rfl,rfl⟩:=hsl;obtain⟨hr,h3,h4⟩:=xU (C:=C) (w:=w) (isSlice:=true) (kl:=kl) (kh:=kh) (aS 0) hb;have h5:(bounds 0 lo hi).2.2=0:=by simpa using h4
    have h6:(bounds 0 lo hi).2.1=0:=by omega
    refine⟨.slice none 0 0,?_,?_⟩
    ·simp only[wB,Instr.slice,jJ,run_underlying hu,kQ,hr,(hT _ _ htie).sizeOf,jI,h5,h6];rfl
    ·simp only[L.Rel];refine⟨hlive,nH,yDx,_,rfl,rfl,λ_=>?_⟩;unfold eP;rw[hnb];simp only[h5,h6];exact⟨trivial,trivial,trivial⟩
   ·rename_i b hbb;obtain⟨hoff,o,rfl,ho'⟩:=hsl;obtain⟨hr,h3,h4⟩:=xU (C:=C) (w:=w) (isSlice:=true) (kl:=kl) (kh:=kh) (n:=len) (cap:=(β id).cap-off) (by omega) hb;generalize hlo:(bounds len lo hi).2.1=a at *;generalize hhi:(bounds len lo hi).2.2=c at *;refine⟨.slice (some (if(β id).cap-off=a then⟨b,o,none⟩else(⟨b,o,none⟩:Addr).add (a*tie.size))) (c-a) ((β id).cap-off-a),?_,?_⟩
    ·simp only[wB,Instr.slice,jJ,run_underlying hu,kQ,hr,(hT _ _ htie).sizeOf,jI];split<;>rfl
    ·simp only[L.Rel];refine⟨hlive,nH,yDx,_,rfl,rfl,λ_=>?_⟩;unfold eP;rw[hbb];simp only;refine⟨by omega,if(β id).cap-off=a then o else o+a*tie.size,?_,?_⟩
     ·rw[show(β id).cap-off-a=(β id).cap-(off+a)by omega];split<;>simp[addr_add]
     ·split
      ·by_cases h0:off+a=0
       ·left;have h1:off=0:=by omega
        rcases ho' with h|h
        ·rw[h,h0,h1]
        ·omega
       ·right;omega
      ·rcases ho' with h|h
       ·left;rw[h,hsz,zB]
       ·right;omega
  ·rename_i e' ei v rows top ho;simp only[aA,aC,aD]at h;obtain⟨⟨kY,hb⟩,rfl⟩:=h;have kY:=aP kY;obtain⟨tie,htie,_,hsz⟩:=hte e hk;have hsz:=hsz id ver off len rfl;have hob:=hh.obj id _ ho;simp only[Ob.Rel]at hob;obtain⟨hlive,nH,hpv,hpz,zUc,hob⟩:=hob;simp only[L.Rel]at hl;obtain⟨_,_,yDx,c0,hc0,_,himp⟩:=hl;have hsl:=himp (by rw[hpv,kY]);simp only[aL,and_true]at hc0;subst hc0;have hu:=hok.slice hk;unfold eP at hsl;split at hsl
   ·rename_i hnb;obtain⟨rfl,rfl,rfl⟩:=hsl;obtain⟨hr,h3,h4⟩:=xU (C:=C) (w:=w) (isSlice:=true) (kl:=kl) (kh:=kh) (aS 0) hb;have h5:(bounds 0 lo hi).2.2=0:=by simpa using h4
    have h6:(bounds 0 lo hi).2.1=0:=by omega
    refine⟨.slice none 0 0,?_,?_⟩
    ·simp only[wB,Instr.slice,jJ,run_underlying hu,kQ,hr,(hT _ _ htie).sizeOf,jI,h5,h6];rfl
    ·simp only[L.Rel];refine⟨hlive,nH,yDx,_,rfl,rfl,λ_=>?_⟩;unfold eP;rw[hnb];simp only[h5,h6];exact⟨trivial,trivial,trivial⟩
   ·rename_i b hbb;obtain⟨hoff,o,rfl,ho'⟩:=hsl;obtain⟨hr,h3,h4⟩:=xU (C:=C) (w:=w) (isSlice:=true) (kl:=kl) (kh:=kh) (n:=len) (cap:=(β id).cap-off) (by omega) hb;generalize hlo:(bounds len lo hi).2.1=a at *;generalize hhi:(bounds len lo hi).2.2=c at *;refine⟨.slice (some (if(β id).cap-off=a then⟨b,o,none⟩else(⟨b,o,none⟩:Addr).add (a*tie.size))) (c-a) ((β id).cap-off-a),?_,?_⟩
    ·simp only[wB,Instr.slice,jJ,run_underlying hu,kQ,hr,(hT _ _ htie).sizeOf,jI];split<;>rfl
    ·simp only[L.Rel];refine⟨hlive,nH,yDx,_,rfl,rfl,λ_=>?_⟩;unfold eP;rw[hbb];simp only;refine⟨by omega,if(β id).cap-off=a then o else o+a*tie.size,?_,?_⟩
     ·rw[show(β id).cap-off-a=(β id).cap-(off+a)by omega];split<;>simp[addr_add]
     ·split
      ·by_cases h0:off+a=0
       ·left;have h1:off=0:=by omega
        rcases ho' with h|h
        ·rw[h,h0,h1]
        ·omega
       ·right;omega
      ·rcases ho' with h|h
       ·left;rw[h,hsz,zB]
       ·right;omega
  ·cases h
 ·cases h
end
end Go.Dec
namespace Go.Dec
section
variable {β:Nat->Pl}{w w':World}{T:Tab}{C:Ctx}{h:List Ob}
def upd(β:Nat->Pl)(id:Nat)(p:Pl):Nat->Pl:=λi=>if i=id then p else β i
theorem upd_same(β:Nat->Pl)(id:Nat)(p:Pl):upd β id p id=p:=by simp[upd]
theorem aY(β:Nat->Pl){id i:Nat}(p:Pl)(hi:i≠id):upd β id p i=β i:=by simp[upd,hi]
structure Same (w w':World):Prop where
 os:w'.os=w.os
 tape:w'.tape=w.tape
 output:w'.output=w.output
theorem Ob.Rel.mono{N N':Nat->Nat->Prop}{o:Ob}{p:Pl}{β':Nat->Pl}(hr:o.Rel β w N p)(hm:Moves β β')(hk:Keep N w w')(hN:∀ b j,b<w.heap.size->N' b j->N b j)(hb:∀ b,o.blks p b->w'.heap[b]?=w.heap[b]?):o.Rel β' w' N' p:=by
 cases o with
 |box e ls =>
  simp only[Ob.Rel]at *;obtain⟨h1,h2,b,cs,h3,h4,h5⟩:=hr;exact⟨h1,h2,b,cs,h3,h4.mono hm hk hN,by rw[hb b (Ob.xL h3)];exact h5⟩
 |arr e t ver rows wr =>
  simp only[Ob.Rel]at *;obtain⟨h1,h2,h3,h4,h5,h5',h6⟩:=hr;refine⟨h1,h2,h3,h4,h5,h5',?_⟩;rcases h6 with h6|⟨b,cur,css,g1,g2,g3,g4⟩
  ·exact .inl h6
  ·exact .inr ⟨b,cur,css,g1,by rw[hb b (Ob.xL g1)];exact g2,g3.mono λ_ _ hx=>hx.mono hk hN,g4⟩
 |fm tab =>
  simp only[Ob.Rel]at *;obtain⟨h1,h2,b,es,n,h3,h4,h5⟩:=hr;exact⟨h1,h2,b,es,n,h3,by rw[hb b (Ob.xL h3)];exact h4,h5⟩
 |dm kt vt es =>
  simp only[Ob.Rel]at *;obtain⟨h1,h2,b,ms,h3,h4,h5⟩:=hr;exact⟨h1,h2,b,ms,h3,by rw[hb b (Ob.xL h3)];exact h4,h5.mono hk hN⟩
 |stk e ei ver rows top =>
  simp only[Ob.Rel]at *;obtain⟨h1,h2,h3,h4,h5,b,cur,cs,cs2,bs,g1,g2,g3,g4,g5,g6,g7,g8,g9,g10,g11⟩:=hr;refine⟨h1,h2,h3,h4,h5,b,cur,cs,cs2,bs,g1,by rw[hb b (Ob.xL g1)];exact g2,g3,g4,g5,g6,g7,g8,?_,?_,g11⟩
  ·exact g9.mono λq hq=>hb q ⟨0,.inr ⟨rfl,0,by rw[g6];exact List.mem_map.2 ⟨q,hq,rfl⟩,aS _⟩⟩
  ·cases top with
   |none=>exact g10
   |some ls=>exact⟨aJ.mono hm hk hN g10.1,g10.2⟩
theorem Ob.Rel.live{N:Nat->Nat->Prop}{o:Ob}{p:Pl}(hr:o.Rel β w N p):p.live=true:=by
 cases o<;>(simp only[Ob.Rel]at hr;exact hr.1)
theorem Ll{o:Ob}{p:Pl}{b j:Nat}(hb:∀ b,o.blks p b->w.heap.size<=b)(hlt:b<w.heap.size)(hn:C.N (upd β h.length p) (h++[o]) b j):C.N β h b j:=by
 rcases hn with hn|⟨id,o',ho',hw,hbk⟩
 ·exact .inl hn
 ·right;by_cases hid:id<h.length
  ·rw[fU hid]at ho';rw[aY _ _ (by omega)]at hbk;exact⟨id,o',ho',hw,hbk⟩
  ·rw[yZ (by omega)]at ho';have:id=h.length:=by
    rcases jF (id-h.length) 1 with h1|h1
    ·omega
    ·rw[qAu (by simpa using h1)]at ho';cases ho'
   subst this;rw[upd_same]at hbk;simp only[Nat.sub_self,qAi,aA]at ho';subst ho';have:=hb b ⟨j,hbk⟩;omega
theorem rY(hs:fC C β h w)(p:Pl):Moves β (upd β h.length p):=λid hl=>by
 left;apply aY;intro e;subst e;rw[hs.dead _ (aS _)]at hl;cases hl
theorem fC.zUe{o:Ob}{p:Pl}(hs:fC C β h w)(hb:∀ b,o.blks p b->w.heap.size<=b/\b<w'.heap.size)(hk:Keep (λ_ _=>False) w w')(hw:Same w w')(ho:o.Rel (upd β h.length p) w' (C.N (upd β h.length p) (h++[o])) p):fC C (upd β h.length p) (h++[o]) w':=by
 have hN:∀ b j,b<w.heap.size->C.N (upd β h.length p) (h++[o]) b j->C.N β h b j:=λb j hlt hn=>Ll (λb h=>(hb b h).1) hlt hn
 have hm:=rY hs p;have hold:∀ id o',(h++[o])[id]?=some o'->(id<h.length/\h[id]?=some o')\/(id=h.length/\o'=o):=λid o' ho'=>by
  by_cases hid:id<h.length
  ·rw[fU hid]at ho';exact .inl ⟨hid,ho'⟩
  ·rw[yZ (by omega)]at ho';right;rcases jF (id-h.length) 1 with h1|h1
   ·have:id-h.length=0:=by omega
    rw[this]at ho';simp only[qAi,aA]at ho';exact⟨by omega,ho'.symm⟩
   ·rw[qAu (by simpa using h1)]at ho';cases ho'
 refine⟨?_,?_,?_,?_,hs.n0,?_,zG hs.size hk.size,hw.os.trans hs.os,hw.tape.trans hs.tape,hw.output.trans hs.output,λj o hj=>by
  obtain⟨k1,k2⟩:=hs.fixed j o hj;exact⟨by simp;omega,λb hb=>by rw[aY _ _ (by omega)];exact k2 b hb⟩⟩
 ·intro id o' ho';rcases hold id o' ho' with ⟨hid,ho'⟩|⟨rfl,rfl⟩
  ·rw[aY _ _ (by omega)];exact(hs.obj id o' ho').mono hm (hk.weaken λ_ _ h=>h.elim) hN λb hb=>hk.block b (hs.eZ id o' b ho' hb).2.1 (λ_ h=>h)
  ·rw[upd_same];exact ho
 ·intro id hid;rw[xG,List.length_singleton]at hid;rw[aY _ _ (by omega)];exact hs.dead id (by omega)
 ·intro i j o1 o2 b h1 h2 hb1 hb2;rcases hold i o1 h1 with ⟨hi,k1⟩|⟨rfl,rfl⟩<;>rcases hold j o2 h2 with ⟨hj,k2⟩|⟨rfl,rfl⟩
  ·rw[aY _ _ (by omega)]at hb1 hb2;exact hs.kX i j o1 o2 b k1 k2 hb1 hb2
  ·rw[aY _ _ (by omega)]at hb1;rw[upd_same]at hb2;have:=(hs.eZ i o1 b k1 hb1).2.1;have:=(hb b hb2).1;omega
  ·rw[aY _ _ (by omega)]at hb2;rw[upd_same]at hb1;have:=(hs.eZ j o2 b k2 hb2).2.1;have:=(hb b hb1).1;omega
  ·rfl
 ·intro id o' b ho' hbk;rcases hold id o' ho' with ⟨hid,ho'⟩|⟨rfl,rfl⟩
  ·rw[aY _ _ (by omega)]at hbk;obtain⟨h1,h2,h3⟩:=hs.eZ id o' b ho' hbk;exact⟨h1,wD h2 hk.size,by rw[aY _ _ (by omega)];exact h3⟩
  ·rw[upd_same]at hbk;obtain⟨e,hlt⟩:=hb b hbk;have h0:=hs.size;exact⟨λ_ hn=>by have:=hs.n0 _ _ hn;omega,hlt,.inl (by omega)⟩
 ·exact hs.frame.uJ hk λ_ _ _ h=>h.elim
theorem fC.push{o:Ob}{p:Pl}(hs:fC C β h w)(hb:p.blk=none\/(p.blk=some w.heap.size/\w.heap.size<w'.heap.size))(hk:Keep (λ_ _=>False) w w')(hw:Same w w')(ho:o.Rel (upd β h.length p) w' (C.N (upd β h.length p) (h++[o])) p)(hpl:o.plain=true:=by rfl):fC C (upd β h.length p) (h++[o]) w' :=
 hs.zUe (λb hbb=>by
  have:=Ob.uU hpl hbb;rcases hb with e|⟨e,hlt⟩<;>rw[e]at this
  ·cases this
  ·simp only[aA]at this;omega) hk hw ho
theorem Sim.zUe{σ:St}{a:Act}{o:Ob}{p:Pl}(hs:Sim C β σ a w)(hb:∀ b,o.blks p b->w.heap.size<=b/\b<w'.heap.size)(hk:Keep (λ_ _=>False) w w')(hw:Same w w')(ho:o.Rel (upd β σ.h.length p) w' (C.N (upd β σ.h.length p) (σ.h++[o])) p):Sim C (upd β σ.h.length p) { σ with h:=σ.h++[o] } a w' :=
 ⟨hs.heap.zUe hb hk hw ho,hs.defers,hs.size,λi v hv=>(hs.reg i v hv).mono (rY hs.heap p) (hk.weaken λ_ _ h=>h.elim) λ_ _ hlt hn=>Ll (λb h=>(hb b h).1) hlt hn⟩
theorem zGi{o:Ob}{p:Pl}(hpl:o.plain=true)(hb:p.blk=none\/p.blk=some w.heap.size):∀ b,o.blks p b->w.heap.size<=b:=λb hbb=>by
 have:=Ob.uU hpl hbb;rcases hb with e|e<;>rw[e]at this
 ·cases this
 ·simp only[aA]at this;omega
theorem Sim.push{σ:St}{a:Act}{o:Ob}{p:Pl}(hs:Sim C β σ a w)(hb:p.blk=none\/(p.blk=some w.heap.size/\w.heap.size<w'.heap.size))(hk:Keep (λ_ _=>False) w w')(hw:Same w w')(ho:o.Rel (upd β σ.h.length p) w' (C.N (upd β σ.h.length p) (σ.h++[o])) p)(hpl:o.plain=true:=by rfl):Sim C (upd β σ.h.length p) { σ with h:=σ.h++[o] } a w' :=
 ⟨hs.heap.push hb hk hw ho hpl,hs.defers,hs.size,λi v hv=>(hs.reg i v hv).mono (rY hs.heap p) (hk.weaken λ_ _ h=>h.elim) λ_ _ hlt hn=>Ll (zGi hpl (hb.imp id (·.1))) hlt hn⟩
theorem yL{id:Nat}{o old:Ob}{p:Pl}{b j:Nat}(hold:h[id]?=some old)(hat:∀ b j,b<w.heap.size->o.wr=true->o.at p b j->old.wr=true/\old.at (β id) b j)(hlt:b<w.heap.size)(hn:C.N (upd β id p) (h.set id o) b j):C.N β h b j:=by
 rcases hn with hn|⟨i,o',ho',hw',hbk⟩
 ·exact .inl hn
 ·right;by_cases hid:i=id
  ·subst hid;have hi:i<h.length:=(bK.1 hold).1;rw[qAv hi]at ho';simp only[aA]at ho';subst ho';rw[upd_same]at hbk;obtain⟨g1,g2⟩:=hat b j hlt hw' hbk;exact⟨i,old,hold,g1,g2⟩
  ·rw[qAw (Ne.symm hid)]at ho';rw[aY _ _ hid]at hbk;exact⟨i,o',ho',hw',hbk⟩
theorem fC.yNg{id:Nat}{o old:Ob}{p:Pl}(hs:fC C β h w)(hold:h[id]?=some old)(hat:∀ b j,b<w.heap.size->o.wr=true->o.at p b j->old.wr=true/\old.at (β id) b j)(hbl:∀ b,o.blks p b->old.blks (β id) b\/(w.heap.size<=b/\b<w'.heap.size))(hk:Keep (λb j=>old.at (β id) b j/\old.wr=true) w w')(hw:Same w w')(hm:Moves β (upd β id p))(ho:o.Rel (upd β id p) w' (C.N (upd β id p) (h.set id o)) p):fC C (upd β id p) (h.set id o) w':=by
 have hN:∀ b j,b<w.heap.size->C.N (upd β id p) (h.set id o) b j->C.N β h b j:=λb j hlt hn=>yL hold hat hlt hn
 have hi:id<h.length:=(bK.1 hold).1;have hkN:Keep (C.N β h) w w':=hk.weaken λb j hbb=>.inr ⟨id,old,hold,hbb.2,hbb.1⟩
 have hcase:∀ i o',(h.set id o)[i]?=some o'->(i≠id/\h[i]?=some o')\/(i=id/\o'=o):=λi o' ho'=>by
  by_cases hid:i=id
  ·subst hid;rw[qAv hi]at ho';simp only[aA]at ho';exact .inr ⟨rfl,ho'.symm⟩
  ·rw[qAw (Ne.symm hid)]at ho';exact .inl ⟨hid,ho'⟩
 refine⟨?_,?_,?_,?_,hs.n0,?_,zG hs.size hk.size,hw.os.trans hs.os,hw.tape.trans hs.tape,hw.output.trans hs.output,λj o' hj=>by
  obtain⟨k1,k2⟩:=hs.fixed j o' hj;refine⟨by simpa using k1,λb hb=>?_⟩;obtain⟨k3,k4⟩:=k2 b hb;obtain⟨oj,hoj⟩:∃ oj,h[j]?=some oj:=⟨h[j],by simp[k1]⟩;rcases hm j (hs.obj j oj hoj).live with e|⟨e,_⟩
  ·rw[e];exact⟨k3,k4⟩
  ·rw[k4]at e;cases e⟩
 ·intro i o' ho';rcases hcase i o' ho' with ⟨hne,ho'⟩|⟨rfl,rfl⟩
  ·rw[aY _ _ hne];exact(hs.obj i o' ho').mono hm hkN hN λb hb=>hk.block b (hs.eZ i o' b ho' hb).2.1 (λj hbb=>hne (hs.kX i id o' old b ho' hold hb ⟨j,hbb.1⟩))
  ·rw[upd_same];exact ho
 ·intro i hl;rw[qAx]at hl;rw[aY _ _ (by omega)];exact hs.dead i hl
 ·intro i j o1 o2 b h1 h2 hb1 hb2;rcases hcase i o1 h1 with ⟨hi1,k1⟩|⟨rfl,rfl⟩<;>rcases hcase j o2 h2 with ⟨hj1,k2⟩|⟨rfl,rfl⟩
  ·rw[aY _ _ hi1]at hb1;rw[aY _ _ hj1]at hb2;exact hs.kX i j o1 o2 b k1 k2 hb1 hb2
  ·rw[aY _ _ hi1]at hb1;rw[upd_same]at hb2;have:=(hs.eZ i o1 b k1 hb1).2.1;rcases hbl b hb2 with e|e
   ·exact hs.kX i _ o1 old b k1 hold hb1 e
   ·omega
  ·rw[aY _ _ hj1]at hb2;rw[upd_same]at hb1;have:=(hs.eZ j o2 b k2 hb2).2.1;rcases hbl b hb1 with e|e
   ·exact hs.kX _ j old o2 b hold k2 e hb2
   ·omega
  ·rfl
 ·intro i o' b ho' hbk;rcases hcase i o' ho' with ⟨hne,ho'⟩|⟨rfl,rfl⟩
  ·rw[aY _ _ hne]at hbk;obtain⟨h1,h2,h3⟩:=hs.eZ i o' b ho' hbk;exact⟨h1,wD h2 hk.size,by rw[aY _ _ hne];exact h3⟩
  ·rw[upd_same]at hbk;rcases hbl b hbk with e|e
   ·obtain⟨h1,h2,h3⟩:=hs.eZ i old b hold e;exact⟨h1,wD h2 hk.size,h3.imp (λh=>h) λh j g1 g2=>(hat b j h2 g1 (by rwa [upd_same]at g2)).elim λg3 g4=>h j g3 g4⟩
   ·have h0:=hs.size;exact⟨λ_ hn=>by have:=hs.n0 _ _ hn;omega,e.2,.inl (by omega)⟩
 ·refine hs.frame.uJ hk λb j hb hbb=>?_
  rcases(hs.eZ id old b hold ⟨j,hbb.1⟩).2.2 with h1|h1
  ·omega
  ·exact h1 j hbb.2 hbb.1
theorem Sim.yNg{σ:St}{a:Act}{id:Nat}{o old:Ob}{p:Pl}(hs:Sim C β σ a w)(hold:σ.h[id]?=some old)(hat:∀ b j,b<w.heap.size->o.wr=true->o.at p b j->old.wr=true/\old.at (β id) b j)(hbl:∀ b,o.blks p b->old.blks (β id) b\/(w.heap.size<=b/\b<w'.heap.size))(hk:Keep (λb j=>old.at (β id) b j/\old.wr=true) w w')(hw:Same w w')(hm:Moves β (upd β id p))(ho:o.Rel (upd β id p) w' (C.N (upd β id p) (σ.h.set id o)) p):Sim C (upd β id p) { σ with h:=σ.h.set id o } a w' :=
 ⟨hs.heap.yNg hold hat hbl hk hw hm ho,hs.defers,hs.size,λi v hv=>(hs.reg i v hv).mono hm (hk.weaken λ_ _ hbb=>.inr ⟨id,old,hold,hbb.2,hbb.1⟩)
  λ_ _ hlt hn=>yL hold hat hlt hn⟩
theorem at_set{id:Nat}{o old:Ob}{p:Pl}(hwr:o.wr=true->old.wr=true)(hb:p.blk=(β id).blk\/p.blk=none\/p.blk=some w.heap.size)(hpl:o.plain=true):∀ b j,b<w.heap.size->o.wr=true->o.at p b j->old.wr=true/\old.at (β id) b j:=λb j hlt h1 h2=>by
 have h3:=Ob.zRf hpl h2;refine⟨hwr h1,?_⟩;rcases hb with e|e|e<;>rw[e]at h3
 ·exact Ob.mP h3
 ·cases h3
 ·simp only[aA]at h3;omega
theorem yVw{id:Nat}{o old:Ob}{p:Pl}(hb:p.blk=(β id).blk\/p.blk=none\/(p.blk=some w.heap.size/\w.heap.size<w'.heap.size))(hpl:o.plain=true):∀ b,o.blks p b->old.blks (β id) b\/(w.heap.size<=b/\b<w'.heap.size):=λb h=>by
 have h3:=Ob.uU hpl h;rcases hb with e|e|⟨e,hlt⟩<;>rw[e]at h3
 ·exact .inl (Ob.xL h3)
 ·cases h3
 ·simp only[aA]at h3;right;omega
theorem Sim.set{σ:St}{a:Act}{id:Nat}{o old:Ob}{p:Pl}(hs:Sim C β σ a w)(hold:σ.h[id]?=some old)(hwr:o.wr=true->old.wr=true)(hb:p.blk=(β id).blk\/p.blk=none\/(p.blk=some w.heap.size/\w.heap.size<w'.heap.size))(hk:Keep (λb _=>(β id).blk=some b/\old.wr=true) w w')(hw:Same w w')(hm:Moves β (upd β id p))(ho:o.Rel (upd β id p) w' (C.N (upd β id p) (σ.h.set id o)) p)(hpl:o.plain=true:=by rfl):Sim C (upd β id p) { σ with h:=σ.h.set id o } a w' :=
 hs.yNg hold (at_set hwr (hb.imp (λh=>h) (·.imp (λh=>h) (·.1))) hpl) (yVw hb hpl) (hk.weaken λ_ _ h=>⟨Ob.mP h.1,h.2⟩) hw hm ho
theorem vU(β:Nat->Pl)(id:Nat):upd β id (β id)=β:=by
 funext i;unfold upd;split
 ·rename_i h;rw[h]
 ·rfl
theorem dX(w:World)(o:Obj):Keep (λ_ _=>False) w (w.alloc o):=Keep.mZ (M:=λ_=>False) (by simp) (λb hb _=>heap_alloc_old w o b hb) (λ_ _ h=>h)
theorem Mw(w:World)(o:Obj):Same w (w.alloc o):=⟨rfl,rfl,rfl⟩
theorem Aq(w:World):Keep (λ_ _=>False) w w.drew:=Keep.mZ (M:=λ_=>False) (aS _) (λ_ _ _=>rfl) (λ_ _ h=>h)
theorem ySf{σ:St}{a:Act}{e:TypeId}{ls:List L}{cs:Array Value}(hs:Sim C β σ a w)(hr:aJ β w (C.N β σ.h) ls cs.toList):∃ β',Moves β β'/\Sim C β' { σ with h:=σ.h++[.box e ls] } a (w.alloc (.cells cs e))/\(L.ptr σ.h.length 0).Rel β' (w.alloc (.cells cs e)) (C.N β' (σ.h++[.box e ls])) [.pointer (some ⟨w.heap.size,0,none⟩)]:=by
 let p:Pl:=⟨true,true,0,some w.heap.size,0,0,0,[]⟩
 have hk:=dX w (.cells cs e);refine⟨upd β σ.h.length p,rY hs.heap p,hs.push (p:=p) (.inr ⟨rfl,by simp⟩) hk (Mw _ _) ?_,?_⟩
 ·simp only[Ob.Rel];refine⟨rfl,rfl,w.heap.size,cs.toList,rfl,?_,?_⟩
  ·exact hr.mono (rY hs.heap p) (hk.weaken λ_ _ h=>h.elim) λb j hlt hn=>Ll (zGi rfl (.inr rfl)) hlt hn
  ·rw[heap_alloc_new]
 ·simp only[L.Rel,upd_same];exact⟨rfl,rfl,w.heap.size,rfl,rfl⟩
theorem ySg{σ:St}{a:Act}{e:TypeId}{t:Ty}{rows:List t.den}{css:List (List Value)}{cs:Array Value}(hs:Sim C β σ a w)(hpos:0<t.size)(hr:bJ (λx c=>t.Rel w (C.N β σ.h) x c) rows css)(hcs:cs.toList=css.flatten)(hm:rows.length<=maxLen):∃ β',Moves β β'/\Sim C β' { σ with h:=σ.h++[.arr e t 0 rows true] } a (w.alloc (.cells cs e)) /\
  (L.own σ.h.length 0).Rel β' (w.alloc (.cells cs e)) (C.N β' (σ.h++[.arr e t 0 rows true])) [.slice (some ⟨w.heap.size,0,none⟩) rows.length rows.length]:=by
 let p:Pl:=⟨true,false,0,some w.heap.size,t.size,rows.length,rows.length,[]⟩
 have hk:=dX w (.cells cs e);have hlen:∀ c∈css,c.length=t.size:=λc hc=>by
  obtain⟨y,_,hy⟩:=hr.mem_right c hc;exact hy.length
 have hsz:cs.size=rows.length*t.size:=by
  rw[<- qAc,hcs,cZ css hlen,hr.length]
 refine⟨upd β σ.h.length p,rY hs.heap p,hs.push (p:=p) (.inr ⟨rfl,by simp⟩) hk (Mw _ _) ?_,?_⟩
 ·simp only[Ob.Rel];refine⟨rfl,rfl,rfl,rfl,hpos,rfl,.inr ⟨w.heap.size,cs,css,rfl,?_,?_,?_,hsz,aS _,hm⟩⟩
  ·rw[heap_alloc_new]
  ·exact hr.mono λ_ _ hx=>hx.mono (hk.weaken λ_ _ h=>h.elim) λb j hlt hn=>Ll (zGi rfl (.inr rfl)) hlt hn
  ·rw[zH (by rw[qAc];omega),hcs]
 ·simp only[L.Rel,upd_same];refine⟨rfl,rfl,aS _,_,rfl,rfl,λ_=>?_⟩;unfold eP;simp only[p];refine⟨by omega,0,rfl,.inl (by simp)⟩
end
end Go.Dec
namespace Go.Dec
section
variable {β:Nat->Pl}{w:World}{T:Tab}{C:Ctx}
def storeAt(T:Tab)(h:List Ob)(t:TypeId)(l:L)(v:V):Option (Bool × List Ob):=
 match T.get t,v.leaves with
 |some ti,some new =>
  if sizes new=ti.size then
   match l with
   |.ptr id off =>
    match h[id]? with
    |some (.box e ls)=>(Mt ls off new).map λls'=>(true,h.set id (.box e ls'))
    |_=>none
   |.sK id off es i sub =>
    match h[id]? with
    |some (.box e ls)=>
     match kS ls off with
     |some (a,.val (.arr n te) xs::rest)=>
      if te.size=es then
       match Mt (explode te (xs.getD i te.dflt)) sub new with
       |some parts =>
        match dS te parts with
        |some (y,[])=>some (decide (i<n),h.set id (.box e (a++.val (.arr n te) (xs.set i y)::rest)))
        |_=>none
       |none=>none
      else none
     |_=>none
    |_=>none
   |.jD id ver i off =>
    match h[id]? with
    |some (.arr e te v rows true)=>
     match Mt (explode te (rows.getD i te.dflt)) off new with
     |some parts =>
      match dS te parts with
      |some (y,[])=>some (vF v ver&&decide (i<rows.length),h.set id (.arr e te v (rows.set i y) true))
      |_=>none
     |none=>none
    |some (.stk e ei v rows (some ls))=>(Mt ls off new).map λls'=>(vF v ver&&decide (i=rows.length),h.set id (.stk e ei v rows (some ls')))
    |_=>none
   |_=>none
  else none
 |_,_=>none
theorem Mx{t:TypeId}{ti:TI}(hok:rM C.P t ti){b off:Nat}{cur:Array Value}{e:TypeId}{x:Value}(hb:w.heap[b]?=some (.cells cur e (0,0)))(hs:x.cells.size=ti.size)(hfit:off+ti.size<=cur.size)(h1:∀ c∈x.cells.toList,c.oneCell'=true):(storeVar t ⟨b,off,none⟩ x).run C.P w=.ok () (w.setRow b (cur.toList.take off++x.cells.toList++cur.toList.drop (off+ti.size)).toArray):=by
 have hlen:x.cells.toList.length=ti.size:=by simpa using hs
 have:=run_storeCells_at (P:=C.P) b off e x.cells.toList 0 cur w hb (by simp;omega) h1;simp only[storeVar,jJ,hok.sizeOf,kQ,hs,ne_eq,not_true_eq_false,if_false];simp only[qAa,hlen]at this;simpa using this
theorem nI{b:Nat}{cs:Array Value}:Keep (λk _=>k=b) w (w.setRow b cs):=Keep.mZ (M:=λk=>k=b) (by simp) (λk _ hn=>setRow_other w b k cs hn) (λ_ _ h=>h)
theorem Cw{b:Nat}{cs:Array Value}:Same w (w.setRow b cs):=⟨rfl,rfl,rfl⟩
theorem Sim.Ye{σ:St}{a:Act}{id:Nat}{e:TypeId}{ls ls':List L}{b:Nat}{cs cs':List Value}(hs:Sim C β σ a w)(ho:σ.h[id]?=some (.box e ls))(hb:(β id).blk=some b)(hheap:w.heap[b]?=some (.cells cs.toArray e (0,0)))(hr:aJ β w (C.N β σ.h) ls' cs'):Sim C β { σ with h:=σ.h.set id (.box e ls') } a (w.setRow b cs'.toArray):=by
 have hob:=hs.heap.obj id _ ho;simp only[Ob.Rel]at hob;obtain⟨hl,hx,_⟩:=hob;have hm:Moves β (upd β id (β id)):=by rw[vU];exact Moves.refl β
 have hk:Keep (λk _=>(β id).blk=some k/\Ob.wr (.box e ls)=true) w (w.setRow b cs'.toArray):=nI.weaken λk _ hk=>by subst hk;exact⟨hb,rfl⟩
 have:=hs.set (id:=id) (o:=.box e ls') (p:=β id) (w':=w.setRow b cs'.toArray) ho (λ_=>rfl) (.inl rfl) hk Cw hm (by
  simp only[Ob.Rel];refine⟨hl,hx,b,cs',hb,?_,setRow_heap w b _ _ e _ hheap⟩;refine hr.mono hm (hk.weaken λk _ hk=>.inr ⟨id,_,ho,rfl,Ob.mP hk.1⟩) λk j hlt hn=>yL (w:=w) ho (at_set (λ_=>rfl) (.inl rfl) rfl) hlt hn)
 rwa [vU]at this
theorem Sim.xEf{σ:St}{a:Act}{id:Nat}{e:TypeId}{t:Ty}{ver:Nat}{rows rows':List t.den}{b:Nat}{cur cur':Array Value}{Yf:List (List Value)}(hs:Sim C β σ a w)(ho:σ.h[id]?=some (.arr e t ver rows true))(hb:(β id).blk=some b)(hheap:w.heap[b]?=some (.cells cur e (0,0)))(hlen:rows'.length=rows.length)(hsz:cur'.size=cur.size)(hr:bJ (λx c=>t.Rel w (C.N β σ.h) x c) rows' Yf)(htake:cur'.toList.take (rows'.length*t.size)=Yf.flatten):Sim C β { σ with h:=σ.h.set id (.arr e t ver rows' true) } a (w.setRow b cur'):=by
 have hob:=hs.heap.obj id _ ho;simp only[Ob.Rel]at hob;obtain⟨hl,hx,h3,h4,h5,h6,h7⟩:=hob;have hm:Moves β (upd β id (β id)):=by rw[vU];exact Moves.refl β
 have hk:Keep (λk _=>(β id).blk=some k/\Ob.wr (.arr e t ver rows true)=true) w (w.setRow b cur'):=nI.weaken λk _ hk=>by subst hk;exact⟨hb,rfl⟩
 have:=hs.set (id:=id) (o:=.arr e t ver rows' true) (p:=β id) (w':=w.setRow b cur') ho (λ_=>rfl) (.inl rfl) hk Cw hm (by
  simp only[Ob.Rel];refine⟨hl,hx,h3,h4,h5,by rw[h6,hlen],?_⟩;rcases h7 with ⟨h7,_⟩|⟨b',xKe,css,g1,g2,g3,g4,g5,g6,g7⟩
  ·rw[h7]at hb;cases hb
  ·rw[hb]at g1;simp only[aA]at g1;subst g1;rw[hheap]at g2;simp only[aA,Obj.cells.injEq]at g2;obtain⟨rfl,_⟩:=g2;refine .inr ⟨b,cur',Yf,hb,setRow_heap w b _ _ e _ hheap,?_,htake,by rw[hsz,g5],by rw[hlen];exact g6,g7⟩;exact hr.mono λ_ _ h=>h.mono (hk.weaken λk _ hk=>.inr ⟨id,_,ho,rfl,Ob.mP hk.1⟩) λk j hlt hn=>yL (w:=w) ho (at_set (λ_=>rfl) (.inl rfl) rfl) hlt hn)
 rwa [vU]at this
theorem Sim.xEg{σ:St}{a:Act}{id:Nat}{e ei:TypeId}{ver:Nat}{rows:List (Int × Int × List Int × List Int × Unit)}{ls ls':List L}{b:Nat}{cur cur':Array Value}{cs yNh:List Value}(hs:Sim C β σ a w)(ho:σ.h[id]?=some (.stk e ei ver rows (some ls)))(hb:(β id).blk=some b)(hheap:w.heap[b]?=some (.cells cur e (0,0)))(hsz:cur'.size=cur.size)(hr:aJ β w (C.N β σ.h) ls' yNh)(h4:yNh.length=4)(hcs:cs.length=rows.length*4)(htk:cur.toList.take (rows.length*4)=cs)(htake:cur'.toList.take ((β id).len*4)=cs++yNh):Sim C β { σ with h:=σ.h.set id (.stk e ei ver rows (some ls')) } a (w.setRow b cur'):=by
 have hob:=hs.heap.obj id _ ho;simp only[Ob.Rel]at hob;obtain⟨hl,hx,h3,h4',h5,b',xKe,cs0,cs2,bs,g1,g2,g3,g4,g5,g6,g7,g8,g9,g10,g11⟩:=hob;rw[hb]at g1;simp only[aA]at g1;subst g1;rw[hheap]at g2;simp only[aA,Obj.cells.injEq]at g2;obtain⟨rfl,_⟩:=g2;have hl0:=g9.length;have e0:cs0=cs:=by
  have:=congrArg (qAy (rows.length*4)) g11;rw[qAz hl0,qAd,qAe (by rw[h5];simp only[Ms];omega),htk]at this;exact this.symm
 subst e0;have hm:Moves β (upd β id (β id)):=by rw[vU];exact Moves.refl β
 have hat:∀ k j,k<w.heap.size->(Ob.stk e ei ver rows (some ls')).wr=true->(Ob.stk e ei ver rows (some ls')).at (β id) k j->(Ob.stk e ei ver rows (some ls)).wr=true/\(Ob.stk e ei ver rows (some ls)).at (β id) k j:=λk j _ _ h=>⟨rfl,Ob.zV rfl rfl rfl h⟩
 have hk:Keep (λk j=>(Ob.stk e ei ver rows (some ls)).at (β id) k j/\Ob.wr (.stk e ei ver rows (some ls))=true) w (w.setRow b cur'):=nI.weaken λk _ hk=>by subst hk;exact⟨Ob.mP hb,rfl⟩
 have:=hs.yNg (id:=id) (o:=.stk e ei ver rows (some ls')) (p:=β id) (w':=w.setRow b cur') ho hat (λk h=>.inl (Ob.mQ rfl rfl rfl h)) hk Cw hm (by
  simp only[Ob.Rel];refine⟨hl,hx,h3,h4',h5,b,cur',cs0,yNh,bs,hb,setRow_heap w b _ _ e _ hheap,by rw[hsz,g3],g4,g5,g6,g7,g8,?_,⟨?_,h4⟩,htake⟩
  ·exact g9.mono λq hq=>setRow_other w b q cur' (λe=>g8 (by rw[<- e];exact hq))
  ·exact hr.mono hm (hk.weaken λk j hk=>.inr ⟨id,_,ho,rfl,hk.1⟩) λk j hlt hn=>yL (w:=w) ho hat hlt hn)
 rwa [vU]at this
theorem zBq{α:Type}(cs:List α)(off n:Nat)(ds:List α)(k m:Nat)(hd:ds.length=m)(h1:off<=k)(h2:k+m<=off+n):cs.take k++ds++cs.drop (k+m)=cs.take off++(((cs.drop off).take n).take (k-off)++(ds++((cs.drop off).take n).drop (k-off+m)))++cs.drop (off+n):=by
 have e1:cs.take k=cs.take off++((cs.drop off).take n).take (k-off):=by
  rw[qAd,qAe (by omega)];have:k=off+(k-off):=by omega
  rw[show cs.take k=cs.take (off+(k-off))by rw[<- this],List.take_add]
 have e2:cs.drop (k+m)=((cs.drop off).take n).drop (k-off+m)++cs.drop (off+n):=by
  rw[qAl,zT];have h4:cs.drop (off+n)=(cs.drop (off+(k-off+m))).drop (n-(k-off+m)):=by
   rw[zT];congr 1;omega
  rw[h4,List.take_append_drop];congr 1;omega
 rw[e1,e2];simp
theorem zQb{α:Type}(cs:List α)(k m R:Nat)(d:List α)(hd:d.length=m)(h:k+m<=R)(hR:R<=cs.length):(cs.take k++d++cs.drop (k+m)).take R=(cs.take R).take k++d++(cs.take R).drop (k+m):=by
 have e1:(cs.take R).take k=cs.take k:=by rw[qAd,qAe (by omega)]
 have e2:(cs.take R).drop (k+m)=(cs.drop (k+m)).take (R-(k+m)):=qAl ..;rw[e1,e2];have hl:(cs.take k++d).length=k+m:=by simp;omega
 rw[qAk,hl,zH (by omega)]
theorem zQc{t:Ty}{N:Nat->Nat->Prop}{rows:List t.den}{css:List (List Value)}(hall:bJ (λx c=>t.Rel w N x c) rows css){i:Nat}(hi:i<rows.length){off:Nat}{new parts:List L}{ds:List Value}{y:t.den}(hset:Mt (explode t (rows.getD i t.dflt)) off new=some parts)(himp:dS t parts=some (y,[]))(hd:aJ β w N new ds):∃ c',bJ (λx c=>t.Rel w N x c) (rows.set i y) (css.set i c')/\off+ds.length<=t.size /\
  (css.set i c').flatten=css.flatten.take (i*t.size+off)++ds++css.flatten.drop (i*t.size+off+ds.length):=by
 have hi1:i<css.length:=by rw[<- hall.length];exact hi
 have hrel:=hall.get i hi hi1;have hlen:∀ c∈css,c.length=t.size:=λc hc=>by
  obtain⟨y,_,hy⟩:=hall.mem_right c hc;exact hy.length
 have hget:rows.getD i t.dflt=rows[i]:=by
  simp only[wG];rw[wW hi];rfl
 rw[hget]at hset;obtain⟨hp,hle⟩:=zBo (β:=β) hset (lJ hrel) hd;obtain⟨c1,c2,e,hy,h2⟩:=vJ himp hp;simp only[aJ]at h2;subst h2;rw[vE]at e;have hci:css[i].length=t.size:=hlen _ (wU hi1);refine⟨c1,hall.set i hy,by omega,?_⟩;rw[<- e];have xIo:css.set i (css[i].take off++(ds++css[i].drop (off+ds.length)))=css.take i++(css[i].take off++(ds++css[i].drop (off+ds.length)))::css.drop (i+1):=List.set_eq_take_append_cons_drop .. |>.trans (by rw[if_pos hi1])
 rw[xIo,List.flatten_append,xB];have t1:(css.take i).flatten=css.flatten.take (i*t.size):=(sJ css hlen i).symm;have t2:(css.drop (i+1)).flatten=css.flatten.drop ((i+1)*t.size):=(pF css hlen (i+1)).symm;have hfl:css.flatten.length=css.length*t.size:=cZ css hlen;have hmul:(i+1)*t.size<=css.length*t.size:=wH _ hi1;have hsm:(i+1)*t.size=i*t.size+t.size:=wF _ _;have t3:(css.flatten.drop (i*t.size)).take t.size=css[i]:=by
  rw[pF css hlen i,List.drop_eq_getElem_cons hi1,xB,<- hci,qBa]
 have:=zBq css.flatten (i*t.size) t.size ds (i*t.size+off) ds.length rfl (by omega) (by omega);rw[this,t1,t2,t3,hsm,show i*t.size+off-i*t.size=off by omega];simp
theorem yJn{σ:St}{a:Act}{t:TypeId}{l:L}{v:V}{x y:Value}{h':List Ob}(hT:bU C.P T)(h:storeAt T σ.h t l v=some (true,h'))(hs:Sim C β σ a w)(hl:l.Rel β w (C.N β σ.h) [x])(hv:v.Rel β w (C.N β σ.h) y):∃ w',(Instr.storeAt t x y).run C.P w=.ok () w'/\Sim C β { σ with h:=h' } a w'/\Keep (C.N β σ.h) w w':=by
 unfold storeAt at h;split at h
 ·rename_i ti new hti hnew;have hok:=hT _ _ hti;have hr:=V.Mv hnew hv;split at h
  ·rename_i hsz;have hyl:y.cells.size=ti.size:=by rw[<- hsz,<- hr.length];simp
   have hdl:y.cells.toList.length=ti.size:=by simpa using hyl
   have hone:=hr.one;split at h
   ·rename_i id off;split at h
    ·rename_i e ls ho;cases hset:Mt ls off new with
     |none=>rw[hset]at h;cases h
     |some ls' =>
      rw[hset]at h;simp only[kU,aA,aC,true_and]at h;subst h;have hob:=hs.heap.obj id _ ho;simp only[Ob.Rel]at hob;obtain⟨_,_,b,cs,hb,hls,hheap⟩:=hob;simp only[L.Rel]at hl;obtain⟨_,_,b',hb',hx⟩:=hl;rw[hb]at hb';simp only[aA]at hb';subst hb';simp only[aL,and_true]at hx;subst hx;obtain⟨hr',hle⟩:=zBo hset hls hr;have hrun:=Mx hok (off:=off) hheap hyl (by simp;omega) hone;refine⟨_,by simpa only[Instr.storeAt,vG,jJ,jI,kQ]using hrun,?_⟩;rw[hdl]at hr';rw[wE];exact⟨hs.Ye ho hb hheap hr',nI.weaken λk _ hk=>.inr ⟨id,_,ho,rfl,Ob.mP (by rw[hk];exact hb)⟩⟩
    ·cases h
   ·rename_i id off es i sub;split at h
    ·rename_i e ls ho;split at h
     ·rename_i a0 n te xs rest hsp;split at h
      ·rename_i hes;subst hes;split at h
       ·rename_i parts hset;split at h
        ·rename_i z himp;simp only[aA,aC]at h;obtain⟨hi,rfl⟩:=h;have hi:=of_decide_eq_true hi;have hob:=hs.heap.obj id _ ho;simp only[Ob.Rel]at hob;obtain⟨_,_,b,cs,hb,hls,hheap⟩:=hob;simp only[L.Rel]at hl;obtain⟨_,_,b',hb',hx⟩:=hl;rw[hb]at hb';simp only[aA]at hb';subst hb';simp only[aL,and_true]at hx;subst hx;obtain⟨hra,hrb,hoff⟩:=yK hsp hls;obtain⟨c1,c2,e1,h1,h2⟩:=hrb;simp only[L.Rel,Ty.Rel]at h1;obtain⟨hn,css,e2,hall⟩:=h1;have hlen:∀ c∈css,c.length=te.size:=λc hc=>by
          obtain⟨y,_,hy⟩:=hall.mem_right c hc;exact hy.length
         have hi0:i<xs.length:=by rw[hn];exact hi
         obtain⟨c',yNi,hle,hfl⟩:=zQc hall hi0 hset himp hr;have hcl:c1.length=n*te.size:=by rw[e2,cZ css hlen,<- hall.length,hn]
         have hcs:cs.length=off+(c1.length+c2.length):=by
          have:=congrArg List.length e1;simp at this;omega
         have hmul:(i+1)*te.size<=n*te.size:=wH _ hi;have hsm:(i+1)*te.size=i*te.size+te.size:=wF _ _;have hrun:=Mx hok (off:=off+i*te.size+sub) (x:=y) hheap hyl (by simp;omega) hone;refine⟨_,by simpa only[Instr.storeAt,vG,jJ,jI,kQ]using hrun,?_⟩;have hrel:aJ β w (C.N β σ.h) (a0++.val (.arr n te) (xs.set i z)::rest) (cs.take off++((css.set i c').flatten++c2)):=by
          refine hra.append ⟨_,_,rfl,?_,h2⟩;simp only[L.Rel,Ty.Rel];exact⟨by simpa using hn,_,rfl,yNi⟩
         have heq:cs.take (off+i*te.size+sub)++y.cells.toList++cs.drop (off+i*te.size+sub+ti.size)=cs.take off++((css.set i c').flatten++c2):=by
          have:=zBq cs off c1.length y.cells.toList (off+i*te.size+sub) ti.size hdl (by omega) (by omega);rw[this,show off+i*te.size+sub-off=i*te.size+sub by omega,hfl];have t1:(cs.drop off).take c1.length=c1:=by rw[e1,qBa]
          have t2:cs.drop (off+c1.length)=c2:=by rw[<- zT,e1,List.drop_left]
          rw[t1,t2,e2,hdl];simp
         rw[heq];exact⟨hs.Ye ho hb hheap hrel,nI.weaken λk _ hk=>.inr ⟨id,_,ho,rfl,Ob.mP (by rw[hk];exact hb)⟩⟩
        ·cases h
       ·cases h
      ·cases h
     ·cases h
    ·cases h
   ·rename_i id ver i off;split at h
    ·rename_i e te vv rows ho;split at h
     ·rename_i parts hset;split at h
      ·rename_i z himp;simp only[aA,aC,aD]at h;obtain⟨⟨kY,hi⟩,rfl⟩:=h;have kY:=aP kY;have hi:=of_decide_eq_true hi;have hob:=hs.heap.obj id _ ho;simp only[Ob.Rel]at hob;obtain⟨_,_,hpv,hpz,hpos,zUc,hob⟩:=hob;simp only[L.Rel]at hl;obtain⟨_,_,_,c0,hc0,_,hb0⟩:=hl;obtain⟨b',hb',hx⟩:=hb0 (by rw[hpv,kY]);simp only[aL,and_true]at hc0;subst hc0;rcases hob with ⟨hnb,_⟩|⟨b,cur,css,hb,hheap,hall,htake,hcap,hrc,_⟩
       ·rw[hnb]at hb';cases hb'
       ·rw[hb]at hb';simp only[aA]at hb';subst hb';subst hx;have hlen:∀ c∈css,c.length=te.size:=λc hc=>by
         obtain⟨y,_,hy⟩:=hall.mem_right c hc;exact hy.length
        obtain⟨c',yNi,hle,hfl⟩:=zQc hall hi hset himp hr;have hmul:(i+1)*te.size<=rows.length*te.size:=wH _ hi;have xMw:rows.length*te.size<=(β id).cap*te.size:=wH _ hrc;have hsm:(i+1)*te.size=i*te.size+te.size:=wF _ _;have hrun:=Mx hok (off:=i*te.size+off) (x:=y) hheap hyl (by omega) hone;refine⟨_,by simpa only[Instr.storeAt,vG,jJ,jI,kQ,hpz]using hrun,?_⟩;refine⟨hs.xEf (Yf:=css.set i c') ho hb hheap (by simp) ?_ yNi ?_,nI.weaken λk _ hk=>.inr ⟨id,_,ho,rfl,Ob.mP (by rw[hk];exact hb)⟩⟩
        ·simp only[qBb,xG,qAb,yV,qAc,hdl];omega
        ·rw[hfl,<- htake,hdl];simp only[qAx];have hh:cur.toList.length=cur.size:=by simp
         exact zQb _ _ _ _ _ hdl (by omega) (by omega)
      ·cases h
     ·cases h
    ·rename_i e ei vv rows ls ho;cases hset:Mt ls off new with
     |none=>rw[hset]at h;cases h
     |some ls' =>
      rw[hset]at h;simp only[kU,aA,aC,aD]at h;obtain⟨⟨kY,hi⟩,rfl⟩:=h;have kY:=aP kY;have hi:=of_decide_eq_true hi;subst hi;have hob:=hs.heap.obj id _ ho;simp only[Ob.Rel]at hob;obtain⟨_,_,hpv,hpz,hpl,b,cur,cs,cs2,bs,hb,hheap,hcap,hlc,_,_,_,_,hfr,⟨hls,hl4⟩,htake⟩:=hob;simp only[L.Rel]at hl;obtain⟨_,_,_,c0,hc0,_,hb0⟩:=hl;obtain⟨b',hb',hx⟩:=hb0 (by rw[hpv,kY]);simp only[aL,and_true]at hc0;subst hc0;rw[hb]at hb';simp only[aA]at hb';subst hb';subst hx;obtain⟨hp,hle⟩:=zBo hset hls hr;have hcl:=hfr.length;have hpl':(β id).len=rows.length+1:=hpl;have hh:cur.toList.length=cur.size:=by simp
      have hcur:cur.toList.take ((rows.length+1)*4)=cs++cs2:=by rw[<- hpl'];exact htake
      have hge:(rows.length+1)*4<=cur.size:=by rw[hcap];exact wH _ (by omega)
      have hrun:=Mx hok (off:=rows.length*4+off) (x:=y) hheap hyl (by omega) hone;refine⟨_,by simpa only[Instr.storeAt,vG,jJ,jI,kQ,hpz]using hrun,?_⟩;refine⟨hs.xEg (cs:=cs) ho hb hheap ?_ hp (by simp only[xG,qAb,yV,hdl];omega) hcl ?_ ?_,nI.weaken λk _ hk=>.inr ⟨id,_,ho,rfl,Ob.mP (by rw[hk];exact hb)⟩⟩
      ·simp only[qBb,xG,qAb,yV,qAc,hdl];omega
      ·have:=congrArg (qAy (rows.length*4)) hcur
       rwa [qAz hcl,qAd,qAe (by omega)]at this
      ·rw[hpl',zQb _ _ _ _ _ hdl (by omega) (by omega),hcur,qAk,List.drop_append,hcl,zH (by omega),List.drop_of_length_le (by omega),show rows.length*4+off-rows.length*4=off by omega,show rows.length*4+off+ti.size-rows.length*4=off+ti.size by omega,hdl];simp
    ·cases h
   ·cases h
  ·cases h
 ·cases h
end
end Go.Dec
