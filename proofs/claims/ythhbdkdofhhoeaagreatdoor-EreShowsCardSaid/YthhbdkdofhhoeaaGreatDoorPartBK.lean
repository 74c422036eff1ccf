/- Part of a proof over this seat: a library of my own, and what it says of this seat. No statement is proved here. -/
import Derived.Test.YthhbdkdofhhoeaaGreatDoorPartBI
import Derived.Test.YthhbdkdofhhoeaaGreatDoorPartBJ
namespace Go.Dec
def Pt.kind:Pt->Int | .empty=>0 | .bytes _=>1 | .bol=>2 | .eol=>3 | .cat _ _=>4 | .alt _ _=>5 | .times _ _ _=>6 | .group _ _=>7 | .ref _=>8
inductive NV where
 |empty|bol|eol
 |bytes (p:Nat->Bool)
 |cat (a b:Int)|alt (a b:Int)
 |times (a lo hi:Int)
 |group (a:Int) (m:Nat)
 |ref (m:Nat)
def NV.node:NV->Nd | .empty=>(0,[0,0,0,0],0,0,0,0,0,()) | .bytes p=>(1,wd p,0,0,0,0,0,()) | .bol=>(2,[0,0,0,0],0,0,0,0,0,()) | .eol=>(3,[0,0,0,0],0,0,0,0,0,()) | .cat a b=>(4,[0,0,0,0],a,b,0,0,0,()) | .alt a b=>(5,[0,0,0,0],a,b,0,0,0,()) | .times a lo hi=>(6,[0,0,0,0],a,0,lo,hi,0,()) | .group a m=>(7,[0,0,0,0],a,0,0,0,(m:Int),()) | .ref m=>(8,[0,0,0,0],0,0,0,0,(m:Int),())
def xV (lo hi:Int):Bool:=decide (0<=lo)&&decide (lo<=255)&&(decide (hi = -1)||(decide (lo<=hi)&&decide (1<=hi)&&decide (hi<=255)))
def NV.ok:NV->Bool | .bytes p=>!fK p | .times _ lo hi=>xV lo hi | .group _ m=>decide (1<=m)&&decide (m<=9) | .ref m=>decide (1<=m)&&decide (m<=9) | _=>true
section
variable {n:Nat}{w:List Int}{a b lo hi m:Int}{u:Unit}
end
end Go.Dec
namespace Go.Dec
def Pt.nv (o:Nat):Pt->NV | .empty => .empty | .bytes p => .bytes p | .bol => .bol | .eol => .eol | .cat a b => .cat (a.top o) (b.top (o+a.sz)) | .alt a b => .alt (a.top o) (b.top (o+a.sz)) | .times a lo hi => .times (a.top o) lo hi | .group a m => .group (a.top o) m | .ref m => .ref m
def Pt.zYq (o:Nat):Pt->List Nd | .cat a b=>a.enc o++b.enc (o+a.sz) | .alt a b=>a.enc o++b.enc (o+a.sz) | .times a _ _=>a.enc o | .group a _=>a.enc o | _=>[]
theorem Pt.zFs(o:Nat)(t:Pt):t.enc o=t.zYq o++[(t.nv o).node]:=by
 cases t<;>rfl
theorem Pt.zYr(o:Nat)(t:Pt):(t.zYq o).length+1=t.sz:=by
 have:=t.iP o;rw[t.zFs]at this;simpa using this
def At (l:List Nd) (o:Nat) (t:Pt):Prop := ∃ pre post,l = pre++t.enc o++post ∧ pre.length = o
theorem At.node{l:List Nd}{o:Nat}{t:Pt}(h:At l o t):l[o+t.sz-1]?=some (t.nv o).node:=by
 obtain⟨pre,post,rfl,hp⟩:=h;have hb:=t.zYr o;rw[t.zFs,<- List.append_assoc,List.append_assoc,List.getElem?_append_right (by rw[List.length_append];omega)];rw[List.length_append,show o+t.sz-1-(pre.length+(t.zYq o).length)=0 by omega];rfl
theorem At.len{l:List Nd}{o:Nat}{t:Pt}(h:At l o t):o+t.sz<=l.length:=by
 obtain⟨pre,post,rfl,hp⟩:=h;simp only[List.length_append,Pt.iP];omega
theorem At.top{l:List Nd}{o:Nat}{t:Pt}(h:At l o t):inB (t.top o) l.length=true/\∀ d,bE d l (t.top o)=(t.nv o).node:=by
 have h1:=h.node;have h2:=h.len;have h3:=t.zUv;have e:t.top o=((o+t.sz-1:Nat):Int):=by unfold Pt.top;omega
 rw[e];refine⟨qR (by omega),λd=>?_⟩;rw[qI (by omega)];rw[List.getElem?_eq_getElem (by omega)]at h1;exact Option.some.inj h1
def xG:Pt->Bool | .bytes p=>!fK p | .cat a b=>xG a&&xG b | .alt a b=>xG a&&xG b | .times a lo hi=>xG a&&xV lo hi | .group a m=>xG a&&(decide (1<=m)&&decide (m<=9)) | .ref m=>decide (1<=m)&&decide (m<=9) | _=>true
def zM:Pt->Bool | .cat a b=>zM a&&zM b&&(decide (a.kind ≠ 4)&&decide (a.kind ≠ 5)&&decide (b.kind ≠ 5)) | .alt a b=>zM a&&zM b&&decide (a.kind ≠ 5) | .times a _ _=>zM a&&(decide (a.kind = 1)||decide (a.kind = 7)||decide (a.kind = 8)) | .group a _=>zM a | _=>true
def zN:Pt->Bool | .empty=>false | .cat a b=>zN a&&zN b | .alt a b=>zN a&&zN b | .times a _ _=>zN a | .group a _=>zN a | _=>true
end Go.Dec
namespace Go.Dec
section
variable {n:Nat}{l:List Nd}{st:List Pt}
def NV.parts:NV->Nat | .cat _ _ | .alt _ _=>2 | .times _ _ _ | .group _ _=>1 | _=>0
end
end Go.Dec
namespace Go.Dec
section
variable {n:Nat}{l:List Nd}
end
abbrev W4:Type:=Nat × Bool × List Bool × Bool
def qF:Pt->W4->W4 | .cat a b,w=>qF b (qF a w) | .alt a b,w=>qF b (qF a w) | .times a _ _,w=>qF a w | .group a m,w=>((qF a (w.1+1,w.2.1&&decide (m = w.1+1),w.2.2.1,w.2.2.2)).1,(qF a (w.1+1,w.2.1&&decide (m = w.1+1),w.2.2.1,w.2.2.2)).2.1,(qF a (w.1+1,w.2.1&&decide (m = w.1+1),w.2.2.1,w.2.2.2)).2.2.1.set m true,(qF a (w.1+1,w.2.1&&decide (m = w.1+1),w.2.2.1,w.2.2.2)).2.2.2) | .ref m,w=>(w.1,w.2.1&&w.2.2.1.getD m false,w.2.2.1,true) | _,w=>w
def W4.out (l:List Nd) (w:W4):Option (List Nd×Int×Bool×List Bool×Bool×Unit):=some (l,(w.1:Int),w.2.1,w.2.2.1,w.2.2.2,())
def w0:W4:=(0,true,yHz,false)
end Go.Dec
namespace Go.Dec
def Jz (ts:List Pt) (w:W4):W4:=ts.foldl (fun w t=>qF t w) w
theorem Nu{p:Nat->Bool}{i:Nat}(hi:i<256)(h:p i=true):fK p=false:=by
 cases he:fK p
 ·rfl
 ·have:=kD he hi;rw[h]at this;simp at this
theorem yBs{r:List UInt8}{p:Nat->Bool}{k:Nat}(h:vO r=some (p,k)):fK p=false:=by
 unfold vO at h;cases h1:[91].isPrefixOf r<;>rw[h1]at h<;>simp only[cond_true,cond_false]at h
 ·simp at h
 ·cases h3:xE (r.length+1) true (λ_=>false) (r.drop (bif [94].isPrefixOf (r.drop 1)then 2 else 1))with
  |none=>rw[h3]at h;simp at h
  |some x =>
   obtain⟨q,m⟩:=x;rw[h3]at h;simp only at h;cases h4:fK (bif [94].isPrefixOf (r.drop 1)then(λj=>!q j)else q)<;>rw[h4]at h<;>simp at h
   rw[<- h.1];simpa using h4
theorem zEb(c:UInt8):fK (mI c)=false:=Nu c.toNat_lt (by simp[mI])
def Tf (t:Pt):Prop:=xG t = true ∧ zM t = true ∧ zN t = true ∧ t.kind ≠ 4 ∧ t.kind ≠ 5
def zLk (t:Pt):Prop:=xG t = true ∧ zM t = true ∧ zN t = true ∧ (t.kind = 1 ∨ t.kind = 7 ∨ t.kind = 8)
def yBt (t:Pt):Prop:=xG t = true ∧ zM t = true ∧ zN t = true ∧ t.kind ≠ 5
theorem zLk.item{t:Pt}(h:zLk t):Tf t:=⟨h.1,h.2.1,h.2.2.1,by rcases h.2.2.2 with h|h|h<;>omega,by rcases h.2.2.2 with h|h|h<;>omega⟩
end Go.Dec
