import Derived.Test.YtfbilefiaminnaaGreatDoorPtrtAS
open Go.IntKind renaming wrap->qEq
open Nat renaming le_trans->zG,zero_le->qAm,ble_eq_true_of_le->qFr,ble->qBg,add_sub_cancel->qGt,le_of_eq->qEz,le_succ->qGv
open List renaming length_append->xG,mem_singleton->qCp,mem_cons->qEu,mem_append->qAp,length_set->qAx,length_singleton->qFl,append_assoc->wE,length_cons->xI,getD_eq_getElem?_getD->wG,getElem?_eq_getElem->wW,length->qGo,getElem_mem->wU,take_of_length_le->zH,mem_or_eq_of_mem_set->qGs,mem_of_getElem?->qDk,map_cons->qBt,getElem?_append_right->yZ,length_nil->qBn,length_drop->yV,map_append->qGu,take_succ_eq_append_getElem->qGm,cons_append->qCt,take_append_drop->qFn,nil_append->qDc,set_cons_zero->qGf,set_cons_succ->qGg,length_take->qAb,length_map->qFs
open Int renaming le_trans->qGq,le_refl->qEe,toNat_natCast->qCg,le_of_lt->qGr
open Prod renaming fst->qEs
open Bool renaming not_true->qCc,true_and->qFw,eq_iff_iff->qFu,false_and->qFv,or_eq_true->qDq
open Option renaming bind_some->qCm
open Option.some renaming inj->qBc
namespace Go.Dec
def Pt.kind:Pt->Int | .empty=>0 | .bytes _=>1 | .bol=>2 | .eol=>3 | .cat _ _=>4 | .alt _ _=>5 | .times _ _ _=>6 | .group _ _=>7 | .ref _=>8
inductive NV where
 |empty|bol|eol
 |bytes (p:Nat->Bool)
 |cat (a b:Int)|alt (a b:Int)
 |times (a lo hi:Int)
 |group (a:Int) (m:Nat)
 |ref (m:Nat)
def NV.node:NV->Nd | .empty=>(0,[0,0,0,0],0,0,0,0,0,()) | .bytes p=>(1,wd p,0,0,0,0,0,()) | .bol=>(2,[0,0,0,0],0,0,0,0,0,()) | .eol=>(3,[0,0,0,0],0,0,0,0,0,()) | .cat a b=>(4,[0,0,0,0],a,b,0,0,0,()) | .alt a b=>(5,[0,0,0,0],a,b,0,0,0,()) | .times a lo hi=>(6,[0,0,0,0],a,0,lo,hi,0,()) | .group a m=>(7,[0,0,0,0],a,0,0,0,(m:Int),()) | .ref m=>(8,[0,0,0,0],0,0,0,0,(m:Int),())
def zGd (lo hi:Int):Bool:=decide (0<=lo)&&decide (lo<=255)&&(decide (hi = -1)||(decide (lo<=hi)&&decide (1<=hi)&&decide (hi<=255)))
def NV.ok:NV->Bool | .bytes p=>!Gn p | .times _ lo hi=>zGd lo hi | .group _ m=>decide (1<=m)&&decide (m<=9) | .ref m=>decide (1<=m)&&decide (m<=9) | _=>true
def zIo (nd:Nd):Prop := ∃ p,nd.2.1 = wd p
theorem xMf{x y:Nd}(h:x=y):Ty.beq aT x y=true:=(@beq_iff aT rfl x y).2 h
theorem xMg{x y:Nd}(h:¬ x=y):Ty.beq aT x y=false:=beq_false (t:=aT) rfl h
def xBq (nd:Nd) (e:Option Bool):Prop:=(e = some true ∧ ∃ v:NV,nd = v.node ∧ v.ok = true) ∨ (e = some false ∧ ∀ v:NV,nd = v.node->v.ok = false)
theorem yBn(v:NV):0<=v.node.1/\v.node.1<=8:=by cases v<;>simp[NV.node]
section
variable {n:Nat}{w:List Int}{a b lo hi m:Int}{u:Unit}
theorem plain0:dM n (0,w,a,b,lo,hi,m,u)=some (0,[0,0,0,0],0,0,0,0,0,()):=by simp[dM]
theorem xHt:dM n (1,w,a,b,lo,hi,m,u)=some (1,w,0,0,0,0,0,()):=by simp[dM]
theorem xHu:dM n (2,w,a,b,lo,hi,m,u)=some (2,[0,0,0,0],0,0,0,0,0,()):=by simp[dM]
theorem xHv:dM n (3,w,a,b,lo,hi,m,u)=some (3,[0,0,0,0],0,0,0,0,0,()):=by simp[dM]
theorem xHw:dM n (4,w,a,b,lo,hi,m,u)=some (4,[0,0,0,0],a,b,0,0,0,()):=by simp[dM]
theorem xHx:dM n (5,w,a,b,lo,hi,m,u)=some (5,[0,0,0,0],a,b,0,0,0,()):=by simp[dM]
theorem xHy:dM n (6,w,a,b,lo,hi,m,u)=some (6,[0,0,0,0],a,0,lo,hi,0,()):=by simp[dM]
theorem xHz:dM n (7,w,a,b,lo,hi,m,u)=some (7,[0,0,0,0],a,0,0,0,m,u):=by simp[dM]
theorem plain8:dM n (8,w,a,b,lo,hi,m,u)=some (8,[0,0,0,0],0,0,0,0,m,u):=by simp[dM]
end
theorem yIq{n:Nat}{nd:Nd}(hw:zIo nd):xBq nd (yT n nd):=by
 obtain⟨k,w,a,b,lo,hi,m,u⟩:=nd;obtain⟨p,hp⟩:=hw;simp only at hp;subst hp;unfold yT;simp only;by_cases h0:k<0
 ·rw[bG (by simp;omega)];exact Or.inr ⟨rfl,λv hv=>by have:=yBn v;rw[<- hv]at this;omega⟩
 rw[aQ (by simp;omega)];by_cases h8:k>8
 ·rw[bG (by simp;omega)];exact Or.inr ⟨rfl,λv hv=>by have:=yBn v;rw[<- hv]at this;omega⟩
 rw[aQ (by simp;omega)];have hcase:k=0\/k=1\/k=2\/k=3\/k=4\/k=5\/k=6\/k=7\/k=8:=by omega
 have hbad:∀ {nd':Nd}{X:Option Bool},(∀ v:NV,(k,wd p,a,b,lo,hi,m,u)=v.node->(k,wd p,a,b,lo,hi,m,u)=nd')->¬ (k,wd p,a,b,lo,hi,m,u)=nd'->xBq (k,wd p,a,b,lo,hi,m,u) (br (!(Ty.beq aT (k,wd p,a,b,lo,hi,m,u) nd')) (some false) X):=by
  intro nd' X h1 h2;rw[xMg h2];exact Or.inr ⟨rfl,λv hv=>absurd (h1 v hv) h2⟩
 have hgood:∀ {nd':Nd}{X:Option Bool},(k,wd p,a,b,lo,hi,m,u)=nd'->(br (!(Ty.beq aT (k,wd p,a,b,lo,hi,m,u) nd')) (some false) X)=X:=by
  intro nd' X h;rw[xMf h];rfl
 have hng:∀ {m:Int}(v:NV),1<=m->∃ m':Nat,m=(m':Int):=λ{m} _ h=>⟨m.toNat,by omega⟩
 rcases hcase with rfl|rfl|rfl|rfl|rfl|rfl|rfl|rfl|rfl
 ·rw[plain0,aK];by_cases h:((0:Int),wd p,a,b,lo,hi,m,u)=((0,[0,0,0,0],0,0,0,0,0,()):Nd)
  ·rw[hgood h];exact Or.inl ⟨rfl,.empty,h,rfl⟩
  ·exact hbad (λv hv=>by rw[hv];cases v<;>simp[NV.node]at hv ⊢) h
 ·rw[xHt,aK];by_cases h:((1:Int),wd p,a,b,lo,hi,m,u)=((1,wd p,0,0,0,0,0,()):Nd)
  ·rw[hgood h];rw[bG (by rfl)];rw[Gp];cases he:Gn p
   ·exact Or.inl ⟨rfl,.bytes p,h,by simp[NV.ok,he]⟩
   ·refine Or.inr ⟨rfl,λv hv=>?_⟩;have e1:=congrArg (λx:Nd=>x.2.1) hv;have e0:=congrArg (λx:Nd=>x.1) hv;cases v<;>simp[NV.node]at e0 e1
    simp only[NV.ok];rw[<- Gp,<- e1,Gp,he];rfl
  ·exact hbad (λv hv=>by rw[hv];cases v<;>simp[NV.node]at hv ⊢;exact hv.1.symm) h
 ·rw[xHu,aK];by_cases h:((2:Int),wd p,a,b,lo,hi,m,u)=((2,[0,0,0,0],0,0,0,0,0,()):Nd)
  ·rw[hgood h];exact Or.inl ⟨rfl,.bol,h,rfl⟩
  ·exact hbad (λv hv=>by rw[hv];cases v<;>simp[NV.node]at hv ⊢) h
 ·rw[xHv,aK];by_cases h:((3:Int),wd p,a,b,lo,hi,m,u)=((3,[0,0,0,0],0,0,0,0,0,()):Nd)
  ·rw[hgood h];exact Or.inl ⟨rfl,.eol,h,rfl⟩
  ·exact hbad (λv hv=>by rw[hv];cases v<;>simp[NV.node]at hv ⊢) h
 ·rw[xHw,aK];by_cases h:((4:Int),wd p,a,b,lo,hi,m,u)=((4,[0,0,0,0],a,b,0,0,0,()):Nd)
  ·rw[hgood h];exact Or.inl ⟨rfl,.cat a b,h,rfl⟩
  ·exact hbad (λv hv=>by rw[hv];cases v<;>simp[NV.node]at hv ⊢;exact⟨hv.2.1.symm,hv.2.2.1.symm⟩) h
 ·rw[xHx,aK];by_cases h:((5:Int),wd p,a,b,lo,hi,m,u)=((5,[0,0,0,0],a,b,0,0,0,()):Nd)
  ·rw[hgood h];exact Or.inl ⟨rfl,.alt a b,h,rfl⟩
  ·exact hbad (λv hv=>by rw[hv];cases v<;>simp[NV.node]at hv ⊢;exact⟨hv.2.1.symm,hv.2.2.1.symm⟩) h
 ·rw[xHy,aK];by_cases h:((6:Int),wd p,a,b,lo,hi,m,u)=((6,[0,0,0,0],a,0,lo,hi,0,()):Nd)
  ·rw[hgood h];rw[aQ (by rfl),bG (by rfl)];have e:(br (decide (lo≥0)) (br (decide (lo<=255)) (br (hi==-1) (some true) (br (decide (hi≥if 1>lo then 1 else lo)) (some (decide (hi<=255))) (some false))) (some false)) (some false))=some (zGd lo hi):=by
    unfold zGd;by_cases g1:0<=lo
    ·rw[bG (by simp;omega),decide_eq_true g1];by_cases g2:lo<=255
     ·rw[bG (by simp;omega),decide_eq_true g2];by_cases g3:hi=-1
      ·subst g3;rfl
      ·rw[aQ (by simp;omega),decide_eq_false g3];by_cases g4:lo<=hi
       ·by_cases g5:1<=hi
        ·rw[bG (by simp;split<;>omega),decide_eq_true g4,decide_eq_true g5];rfl
        ·rw[aQ (by simp;split<;>omega),decide_eq_false g5,decide_eq_true g4];rfl
       ·rw[aQ (by simp;split<;>omega),decide_eq_false g4];rfl
     ·rw[aQ (by simp;omega),decide_eq_false g2,Bool.and_false,qFv]
    ·rw[aQ (by simp;omega),decide_eq_false g1];rfl
   rw[e];cases ht:zGd lo hi
   ·refine Or.inr ⟨rfl,λv hv=>?_⟩;have e1:=congrArg (λx:Nd=>x.2.2.2.2.1) hv;have e2:=congrArg (λx:Nd=>x.2.2.2.2.2.1) hv;have e0:=congrArg (λx:Nd=>x.1) hv;cases v<;>simp[NV.node]at e0 e1 e2
    simp only[NV.ok];rw[<- e1,<- e2];exact ht
   ·exact Or.inl ⟨rfl,.times a lo hi,h,ht⟩
  ·exact hbad (λv hv=>by rw[hv];cases v<;>simp[NV.node]at hv ⊢;exact⟨hv.2.1.symm,hv.2.2.2.1.symm,hv.2.2.2.2.1.symm⟩) h
 ·rw[xHz,aK];by_cases h:((7:Int),wd p,a,b,lo,hi,m,u)=((7,[0,0,0,0],a,0,0,0,m,u):Nd)
  ·rw[hgood h];rw[aQ (by rfl),aQ (by rfl),bG (by rfl),bG (by rfl)];by_cases g1:1<=m
   ·rw[bG (by simp;omega)];by_cases g2:m<=9
    ·obtain⟨m',rfl⟩:∃ m':Nat,m=(m':Int):=⟨m.toNat,by omega⟩;rw[decide_eq_true g2];exact Or.inl ⟨rfl,.group a m',h,by simp[NV.ok];omega⟩
    ·rw[decide_eq_false g2];refine Or.inr ⟨rfl,λv hv=>?_⟩;have e1:=congrArg (λx:Nd=>x.2.2.2.2.2.2.1) hv;have e0:=congrArg (λx:Nd=>x.1) hv;cases v<;>simp[NV.node]at e0 e1
     simp[NV.ok];omega
   ·rw[aQ (by simp;omega)];refine Or.inr ⟨rfl,λv hv=>?_⟩;have e1:=congrArg (λx:Nd=>x.2.2.2.2.2.2.1) hv;have e0:=congrArg (λx:Nd=>x.1) hv;cases v<;>simp[NV.node]at e0 e1
    simp[NV.ok];omega
  ·exact hbad (λv hv=>by rw[hv];cases v<;>simp[NV.node]at hv ⊢;exact⟨hv.2.1.symm,hv.2.2.2.2.2.symm⟩) h
 ·rw[plain8,aK];by_cases h:((8:Int),wd p,a,b,lo,hi,m,u)=((8,[0,0,0,0],0,0,0,0,m,u):Nd)
  ·rw[hgood h];rw[aQ (by rfl),aQ (by rfl),aQ (by rfl),bG (by rfl)];by_cases g1:1<=m
   ·rw[bG (by simp;omega)];by_cases g2:m<=9
    ·obtain⟨m',rfl⟩:∃ m':Nat,m=(m':Int):=⟨m.toNat,by omega⟩;rw[decide_eq_true g2];exact Or.inl ⟨rfl,.ref m',h,by simp[NV.ok];omega⟩
    ·rw[decide_eq_false g2];refine Or.inr ⟨rfl,λv hv=>?_⟩;have e1:=congrArg (λx:Nd=>x.2.2.2.2.2.2.1) hv;have e0:=congrArg (λx:Nd=>x.1) hv;cases v<;>simp[NV.node]at e0 e1
     simp[NV.ok];omega
   ·rw[aQ (by simp;omega)];refine Or.inr ⟨rfl,λv hv=>?_⟩;have e1:=congrArg (λx:Nd=>x.2.2.2.2.2.2.1) hv;have e0:=congrArg (λx:Nd=>x.1) hv;cases v<;>simp[NV.node]at e0 e1
    simp[NV.ok];omega
  ·exact hbad (λv hv=>by rw[hv];cases v<;>simp[NV.node]at hv ⊢;exact hv.2.2.2.2.2.symm) h
end Go.Dec
namespace Go.Dec
def Pt.nv (o:Nat):Pt->NV | .empty => .empty | .bytes p => .bytes p | .bol => .bol | .eol => .eol | .cat a b => .cat (a.top o) (b.top (o+a.sz)) | .alt a b => .alt (a.top o) (b.top (o+a.sz)) | .times a lo hi => .times (a.top o) lo hi | .group a m => .group (a.top o) m | .ref m => .ref m
def Pt.yZq (o:Nat):Pt->List Nd | .cat a b=>a.enc o++b.enc (o+a.sz) | .alt a b=>a.enc o++b.enc (o+a.sz) | .times a _ _=>a.enc o | .group a _=>a.enc o | _=>[]
theorem Pt.yBo(o:Nat)(t:Pt):t.enc o=t.yZq o++[(t.nv o).node]:=by
 cases t<;>rfl
theorem Pt.yZr(o:Nat)(t:Pt):(t.yZq o).length+1=t.sz:=by
 have:=t.iW o;rw[t.yBo]at this;simpa using this
theorem Pt.zOr(o:Nat)(t:Pt):(t.nv o).node.1=t.kind:=by cases t<;>rfl
def At (l:List Nd) (o:Nat) (t:Pt):Prop := ∃ pre post,l = pre++t.enc o++post ∧ pre.length = o
theorem At.node{l:List Nd}{o:Nat}{t:Pt}(h:At l o t):l[o+t.sz-1]?=some (t.nv o).node:=by
 obtain⟨pre,post,rfl,hp⟩:=h;have hb:=t.yZr o;rw[t.yBo,<- wE,wE,yZ (by rw[xG];omega)];rw[xG,show o+t.sz-1-(pre.length+(t.yZq o).length)=0 by omega];rfl
theorem At.len{l:List Nd}{o:Nat}{t:Pt}(h:At l o t):o+t.sz<=l.length:=by
 obtain⟨pre,post,rfl,hp⟩:=h;simp only[xG,Pt.iW];omega
theorem At.top{l:List Nd}{o:Nat}{t:Pt}(h:At l o t):inB (t.top o) l.length=true/\∀ d,aM d l (t.top o)=(t.nv o).node:=by
 have h1:=h.node;have h2:=h.len;have h3:=t.Cu;have e:t.top o=((o+t.sz-1:Nat):Int):=by unfold Pt.top;omega
 rw[e];refine⟨Jc (by omega),λd=>?_⟩;rw[Mj (by omega)];rw[wW (by omega)]at h1;exact qBc h1
theorem At.xIa{l:List Nd}{o:Nat}{a b:Pt}(h:At l o (.cat a b)):At l o a/\At l (o+a.sz) b:=by
 obtain⟨pre,post,rfl,hp⟩:=h;exact⟨⟨pre,b.enc (o+a.sz)++([(Pt.nv o (.cat a b)).node]++post),by simp[Pt.enc,Pt.nv,NV.node],hp⟩,⟨pre++a.enc o,[(Pt.nv o (.cat a b)).node]++post,by simp[Pt.enc,Pt.nv,NV.node],by rw[xG,Pt.iW,hp]⟩⟩
theorem At.alt1{l:List Nd}{o:Nat}{a b:Pt}(h:At l o (.alt a b)):At l o a/\At l (o+a.sz) b:=by
 obtain⟨pre,post,rfl,hp⟩:=h;exact⟨⟨pre,b.enc (o+a.sz)++([(Pt.nv o (.alt a b)).node]++post),by simp[Pt.enc,Pt.nv,NV.node],hp⟩,⟨pre++a.enc o,[(Pt.nv o (.alt a b)).node]++post,by simp[Pt.enc,Pt.nv,NV.node],by rw[xG,Pt.iW,hp]⟩⟩
theorem At.xIb{l:List Nd}{o:Nat}{a:Pt}{lo hi:Int}(h:At l o (.times a lo hi)):At l o a:=by
 obtain⟨pre,post,rfl,hp⟩:=h;exact⟨pre,[(Pt.nv o (.times a lo hi)).node]++post,by simp[Pt.enc,Pt.nv,NV.node],hp⟩
theorem At.xIc{l:List Nd}{o:Nat}{a:Pt}{m:Nat}(h:At l o (.group a m)):At l o a:=by
 obtain⟨pre,post,rfl,hp⟩:=h;exact⟨pre,[(Pt.nv o (.group a m)).node]++post,by simp[Pt.enc,Pt.nv,NV.node],hp⟩
theorem At.self(t:Pt):At (t.enc 0) 0 t:=⟨[],[],by simp,rfl⟩
def xK:Pt->Bool | .bytes p=>!Gn p | .cat a b=>xK a&&xK b | .alt a b=>xK a&&xK b | .times a lo hi=>xK a&&zGd lo hi | .group a m=>xK a&&(decide (1<=m)&&decide (m<=9)) | .ref m=>decide (1<=m)&&decide (m<=9) | _=>true
def Je:Pt->Bool | .cat a b=>Je a&&Je b&&(decide (a.kind ≠ 4)&&decide (a.kind ≠ 5)&&decide (b.kind ≠ 5)) | .alt a b=>Je a&&Je b&&decide (a.kind ≠ 5) | .times a _ _=>Je a&&(decide (a.kind = 1)||decide (a.kind = 7)||decide (a.kind = 8)) | .group a _=>Je a | _=>true
def Gs:Pt->Bool | .empty=>false | .cat a b=>Gs a&&Gs b | .alt a b=>Gs a&&Gs b | .times a _ _=>Gs a | .group a _=>Gs a | _=>true
def encR:List Pt->List Nd | []=>[] | t :: st=>encR st++t.enc (szA st)
def jE:List Pt->List Int | []=>[] | t :: st=>jE st++[t.top (szA st)]
theorem Ro:∀ st:List Pt,(encR st).length=szA st
 |[]=>rfl
 |t::st=>by simp only[encR,szA,xG,Ro st,Pt.iW];omega
theorem wN:∀ st:List Pt,(jE st).length=st.length
 |[]=>rfl
 |t::st=>by simp only[jE,xG,wN st,xI,qBn]
def mY(len:Nat)(st:List Pt)(v:NV):Option (List Pt):=
 match v with
 |.empty=>if len>1 then none else some (.empty::st)
 |.bytes p=>some (.bytes p::st)
 |.bol=>some (.bol::st)
 |.eol=>some (.eol::st)
 |.ref m=>some (.ref m::st)
 |.cat x y=>match st with
  |b::a::st'=>if a.top (szA st')=x/\b.top (szA st'+a.sz)=y/\a.kind≠4/\a.kind≠5/\b.kind≠5 then some (.cat a b::st')else none
  |_=>none
 |.alt x y=>match st with
  |b::a::st'=>if a.top (szA st')=x/\b.top (szA st'+a.sz)=y/\a.kind≠5 then some (.alt a b::st')else none
  |_=>none
 |.times x lo hi=>match st with
  |a::st'=>if a.top (szA st')=x/\(a.kind=1\/a.kind=7\/a.kind=8)then some (.times a lo hi::st')else none
  |_=>none
 |.group x m=>match st with
  |a::st'=>if a.top (szA st')=x then some (.group a m::st')else none
  |_=>none
theorem Rp(st:List Pt)(a:Pt):szA (a::st)=szA st+a.sz:=by simp only[szA];omega
theorem zCt{len:Nat}{st st2:List Pt}{v:NV}(h:mY len st v=some st2):encR st2=encR st++[v.node]:=by
 unfold mY at h;cases v<;>simp only at h
 case empty=>split at h<;>simp at h;subst h;rfl
 case bytes p=>simp at h;subst h;rfl
 case bol=>simp at h;subst h;rfl
 case eol=>simp at h;subst h;rfl
 case ref m=>simp at h;subst h;rfl
 case cat x y =>
  match st,h with
  |[],h=>simp at h
  |[_],h=>simp at h
  |b::a::st',h =>
   simp only at h;split at h<;>simp at h
   rename_i hc;subst h;simp only[encR,Pt.enc,Rp,wE,NV.node,hc.1,hc.2.1]
 case alt x y =>
  match st,h with
  |[],h=>simp at h
  |[_],h=>simp at h
  |b::a::st',h =>
   simp only at h;split at h<;>simp at h
   rename_i hc;subst h;simp only[encR,Pt.enc,Rp,wE,NV.node,hc.1,hc.2.1]
 case times x lo hi =>
  match st,h with
  |[],h=>simp at h
  |a::st',h =>
   simp only at h;split at h<;>simp at h
   rename_i hc;subst h;simp only[encR,Pt.enc,wE,NV.node,hc.1]
 case group x m =>
  match st,h with
  |[],h=>simp at h
  |a::st',h =>
   simp only at h;split at h<;>simp at h
   rename_i hc;subst h;simp only[encR,Pt.enc,wE,NV.node,hc]
def Us (len:Nat) (t:Pt):Prop:=xK t = true ∧ Je t = true ∧ (len > 1->Gs t = true)
theorem yZs{len:Nat}{st st2:List Pt}{v:NV}(hv:v.ok=true)(hst:∀ t∈st,Us len t)(h:mY len st v=some st2):∀ t∈st2,Us len t:=by
 unfold mY at h;cases v<;>simp only at h
 case empty =>
  split at h<;>simp at h;subst h
  rename_i hl;intro t ht;rcases qEu.1 ht with rfl|ht
  ·exact⟨rfl,rfl,λh=>absurd h hl⟩
  ·exact hst t ht
 case bytes p=>simp at h;subst h;intro t ht;rcases qEu.1 ht with rfl|ht;exact⟨hv,rfl,λ_=>rfl⟩;exact hst t ht
 case bol=>simp at h;subst h;intro t ht;rcases qEu.1 ht with rfl|ht;exact⟨rfl,rfl,λ_=>rfl⟩;exact hst t ht
 case eol=>simp at h;subst h;intro t ht;rcases qEu.1 ht with rfl|ht;exact⟨rfl,rfl,λ_=>rfl⟩;exact hst t ht
 case ref m=>simp at h;subst h;intro t ht;rcases qEu.1 ht with rfl|ht;exact⟨hv,rfl,λ_=>rfl⟩;exact hst t ht
 case cat x y =>
  match st,h with
  |[],h=>simp at h
  |[_],h=>simp at h
  |b::a::st',h =>
   simp only at h;split at h<;>simp at h
   rename_i hc;subst h;intro t ht;have ha:=hst a (by simp);have hb:=hst b (by simp);rcases qEu.1 ht with rfl|ht
   ·exact⟨by simp[xK,ha.1,hb.1],by simp[Je,ha.2.1,hb.2.1,hc.2.2.1,hc.2.2.2.1,hc.2.2.2.2],λhl=>by simp[Gs,ha.2.2 hl,hb.2.2 hl]⟩
   ·exact hst t (by simp[ht])
 case alt x y =>
  match st,h with
  |[],h=>simp at h
  |[_],h=>simp at h
  |b::a::st',h =>
   simp only at h;split at h<;>simp at h
   rename_i hc;subst h;intro t ht;have ha:=hst a (by simp);have hb:=hst b (by simp);rcases qEu.1 ht with rfl|ht
   ·exact⟨by simp[xK,ha.1,hb.1],by simp[Je,ha.2.1,hb.2.1,hc.2.2],λhl=>by simp[Gs,ha.2.2 hl,hb.2.2 hl]⟩
   ·exact hst t (by simp[ht])
 case times x lo hi =>
  match st,h with
  |[],h=>simp at h
  |a::st',h =>
   simp only at h;split at h<;>simp at h
   rename_i hc;subst h;intro t ht;have ha:=hst a (by simp);rcases qEu.1 ht with rfl|ht
   ·refine⟨by simp only[xK,ha.1,qFw];exact hv,?_,λhl=>by simp[Gs,ha.2.2 hl]⟩;simp only[Je,ha.2.1,qFw,qDq,decide_eq_true_eq];rcases hc.2 with h|h|h
    ·exact Or.inl (Or.inl h)
    ·exact Or.inl (Or.inr h)
    ·exact Or.inr h
   ·exact hst t (by simp[ht])
 case group x m =>
  match st,h with
  |[],h=>simp at h
  |a::st',h =>
   simp only at h;split at h<;>simp at h
   rename_i hc;subst h;intro t ht;have ha:=hst a (by simp);rcases qEu.1 ht with rfl|ht
   ·exact⟨by simp only[xK,ha.1,qFw];exact hv,by simp[Je,ha.2.1],λhl=>by simp[Gs,ha.2.2 hl]⟩
   ·exact hst t (by simp[ht])
def wX(len:Nat):List NV->List Pt->Option (List Pt)
 |[],st=>some st
 |v::vs,st=>match mY len st v with
  |none=>none
  |some st2=>wX len vs st2
theorem Gt(len:Nat):∀ (a b:List NV) (st:List Pt),wX len (a++b) st=(wX len a st).bind (wX len b)
 |[],b,st=>rfl
 |v::a,b,st=>by
  simp only[qCt,wX];cases mY len st v with
  |none=>rfl
  |some st2=>exact Gt len a b st2
def Pt.nvs (o:Nat):Pt->List NV | .cat a b=>a.nvs o++b.nvs (o+a.sz)++[.cat (a.top o) (b.top (o+a.sz))] | .alt a b=>a.nvs o++b.nvs (o+a.sz)++[.alt (a.top o) (b.top (o+a.sz))] | .times a lo hi=>a.nvs o++[.times (a.top o) lo hi] | .group a m=>a.nvs o++[.group (a.top o) m] | .empty=>[.empty] | .bytes p=>[.bytes p] | .bol=>[.bol] | .eol=>[.eol] | .ref m=>[.ref m]
theorem Mk:∀ (t:Pt) (o:Nat),(t.nvs o).map NV.node=t.enc o
 |.cat a b,o=>by simp[Pt.nvs,Pt.enc,Mk a,Mk b,NV.node]
 |.alt a b,o=>by simp[Pt.nvs,Pt.enc,Mk a,Mk b,NV.node]
 |.times a _ _,o=>by simp[Pt.nvs,Pt.enc,Mk a,NV.node]
 |.group a _,o=>by simp[Pt.nvs,Pt.enc,Mk a,NV.node]
 |.empty,_|.bytes _,_|.bol,_|.eol,_|.ref _,_=>rfl
theorem zBb:∀ (t:Pt) (o:Nat),xK t=true->∀ v∈t.nvs o,v.ok=true
 |.cat a b,o,h,v,hv=>by
  simp only[xK,aD]at h;simp only[Pt.nvs,qAp,qCp]at hv;rcases hv with (hv|hv)|rfl
  ·exact zBb a o h.1 v hv
  ·exact zBb b _ h.2 v hv
  ·rfl
 |.alt a b,o,h,v,hv=>by
  simp only[xK,aD]at h;simp only[Pt.nvs,qAp,qCp]at hv;rcases hv with (hv|hv)|rfl
  ·exact zBb a o h.1 v hv
  ·exact zBb b _ h.2 v hv
  ·rfl
 |.times a lo hi,o,h,v,hv=>by
  simp only[xK,aD]at h;simp only[Pt.nvs,qAp,qCp]at hv;rcases hv with hv|rfl
  ·exact zBb a o h.1 v hv
  ·exact h.2
 |.group a m,o,h,v,hv=>by
  simp only[xK,aD]at h;simp only[Pt.nvs,qAp,qCp]at hv;rcases hv with hv|rfl
  ·exact zBb a o h.1 v hv
  ·simp only[NV.ok,aD];exact h.2
 |.empty,_,h,v,hv=>by simp only[Pt.nvs,qCp]at hv;subst hv;rfl
 |.bytes _,_,h,v,hv=>by simp only[Pt.nvs,qCp]at hv;subst hv;exact h
 |.bol,_,h,v,hv=>by simp only[Pt.nvs,qCp]at hv;subst hv;rfl
 |.eol,_,h,v,hv=>by simp only[Pt.nvs,qCp]at hv;subst hv;rfl
 |.ref _,_,h,v,hv=>by simp only[Pt.nvs,qCp]at hv;subst hv;exact h
theorem Ch(len:Nat):∀ (t:Pt) (st:List Pt),Je t=true->(len>1->Gs t=true)->wX len (t.nvs (szA st)) st=some (t::st)
 |.cat a b,st,h,hn=>by
  simp only[Je,aD,decide_eq_true_eq]at h;simp only[Gs,aD]at hn;have ha:=Ch len a st h.1.1 (λhl=>(hn hl).1);have hb:=Ch len b (a::st) h.1.2 (λhl=>(hn hl).2);rw[Rp]at hb;simp only[Pt.nvs];rw[Gt,Gt,ha];simp only[qCm];rw[hb];simp only[qCm,wX,mY];rw[if_pos (by refine⟨?_,?_,h.2.1.1,h.2.1.2,h.2.2⟩<;>first|trivial|rfl)]
 |.alt a b,st,h,hn=>by
  simp only[Je,aD,decide_eq_true_eq]at h;simp only[Gs,aD]at hn;have ha:=Ch len a st h.1.1 (λhl=>(hn hl).1);have hb:=Ch len b (a::st) h.1.2 (λhl=>(hn hl).2);rw[Rp]at hb;simp only[Pt.nvs];rw[Gt,Gt,ha];simp only[qCm];rw[hb];simp only[qCm,wX,mY];rw[if_pos (by refine⟨?_,?_,h.2⟩<;>first|trivial|rfl)]
 |.times a lo hi,st,h,hn=>by
  simp only[Je,aD,qDq,decide_eq_true_eq]at h;simp only[Gs]at hn;have ha:=Ch len a st h.1 hn;simp only[Pt.nvs];rw[Gt,ha];simp only[qCm,wX,mY];rw[if_pos (by refine⟨?_,by rcases h.2 with (h|h)|h;exact Or.inl h;exact Or.inr (Or.inl h);exact Or.inr (Or.inr h)⟩;first|trivial|rfl)]
 |.group a m,st,h,hn=>by
  simp only[Je]at h;simp only[Gs]at hn;have ha:=Ch len a st h hn;simp only[Pt.nvs];rw[Gt,ha];simp only[qCm,wX,mY];rw[if_pos (by first|trivial|rfl)]
 |.empty,st,h,hn=>by
  simp only[Pt.nvs,wX,mY];rw[if_neg (λhl=>by simp[Gs]at hn;omega)]
 |.bytes _,st,_,_=>rfl
 |.bol,st,_,_=>rfl
 |.eol,st,_,_=>rfl
 |.ref _,st,_,_=>rfl
theorem xId{n:Nat}(hn:5<=n){k:Int}(hk:0<=k)(hk8:k<=8):wR n ([1,7,8],k)=some (decide (k=1)||decide (k=7)||decide (k=8)):=by
 obtain⟨n,rfl⟩:∃ m,n=m+5:=⟨n-5,by omega⟩;have hcase:k=0\/k=1\/k=2\/k=3\/k=4\/k=5\/k=6\/k=7\/k=8:=by omega
 rcases hcase with rfl|rfl|rfl|rfl|rfl|rfl|rfl|rfl|rfl<;>rfl
theorem yIr(t:Pt):0<=t.kind/\t.kind<=8:=by cases t<;>simp[Pt.kind]
section
variable {n:Nat}{l:List Nd}{st:List Pt}
theorem yVc{i:Nat}{a b:Pt}(h:encR (b::a::st)=l.take i):At l (szA st) a/\At l (szA st+a.sz) b:=by
 have hl:l=encR (b::a::st)++l.drop i:=by rw[h,qFn]
 simp only[encR]at hl;refine⟨⟨encR st,b.enc (szA st+a.sz)++l.drop i,?_,Ro st⟩,⟨encR st++a.enc (szA st),l.drop i,?_,by rw[xG,Ro,Pt.iW]⟩⟩
 ·rw[Rp]at hl;rw[wE]at hl ⊢;rw[wE]at hl;exact hl
 ·rw[Rp]at hl;exact hl
theorem at_one{i:Nat}{a:Pt}(h:encR (a::st)=l.take i):At l (szA st) a:=by
 have hl:l=encR (a::st)++l.drop i:=by rw[h,qFn]
 exact⟨encR st,l.drop i,hl,Ro st⟩
theorem Ml{v:NV}(h:v.node.1≠4)(h2:v.node.1≠5)(h3:v.node.1≠6):qH n (l,v.node)=some true:=by
 unfold qH;simp only;rw[aQ (by simpa using h),aQ (by simpa using h2),aQ (by simpa using h3)]
theorem yZt{oa ob':Nat}{a b:Pt}(ha:At l oa a)(hb:At l ob' b):qH n (l,(NV.cat (a.top oa) (b.top ob')).node)=some (decide (a.kind≠4/\a.kind≠5/\b.kind≠5)):=by
 unfold qH;simp only[NV.node];rw[bG (by rfl),aI ha.top.1,ha.top.2,Pt.zOr,aI ha.top.1,aI hb.top.1,hb.top.2,Pt.zOr];by_cases h1:a.kind=4
 ·rw[aQ (by simp[h1]),decide_eq_false (by intro h;exact h.1 h1)]
 ·rw[bG (by simpa using h1)];by_cases h2:a.kind=5
  ·rw[aQ (by simp[h2]),decide_eq_false (by intro h;exact h.2.1 h2)]
  ·rw[bG (by simpa using h2)];congr 1;rw[qFu];simp[h1,h2]
theorem yZu{oa:Nat}{y:Int}{a:Pt}(ha:At l oa a):qH n (l,(NV.alt (a.top oa) y).node)=some (decide (a.kind≠5)):=by
 unfold qH;simp only[NV.node];rw[aQ (by rfl),bG (by rfl),aI ha.top.1,ha.top.2,Pt.zOr];congr 1;rw[qFu];simp
theorem yRk{oa:Nat}{lo hi:Int}{a:Pt}(hn:5<=n)(ha:At l oa a):qH n (l,(NV.times (a.top oa) lo hi).node)=some (decide (a.kind=1)||decide (a.kind=7)||decide (a.kind=8)):=by
 unfold qH;simp only[NV.node];rw[aQ (by rfl),aQ (by rfl),bG (by rfl),aI ha.top.1,ha.top.2,Pt.zOr,xId hn (yIr a).1 (yIr a).2];rfl
def NV.parts:NV->Nat | .cat _ _ | .alt _ _=>2 | .times _ _ _ | .group _ _=>1 | _=>0
theorem parts_eq(v:NV):qL n v.node=some (v.parts:Int):=by cases v<;>rfl
theorem zZw(a:Pt):(jE (a::st)).take st.length=jE st:=by
 simp only[jE];rw[List.take_append_of_le_length (by rw[wN];omega),zH (by rw[wN];omega)]
theorem yIs(a b:Pt):(jE (b::a::st)).take st.length=jE st:=by
 rw[jE,List.take_append_of_le_length (by rw[wN];simp),zZw]
theorem zZx(a:Pt):(jE (a::st)).getD (0+st.length+0) 0=a.top (szA st):=by
 rw[jE,wG,yZ (by rw[wN];omega),wN];simp
theorem yIt(a b:Pt):(jE (b::a::st)).getD (0+st.length+0) 0=a.top (szA st):=by
 rw[jE,wG,fU (by rw[wN];simp),<- wG,zZx]
theorem yIu(a b:Pt):(jE (b::a::st)).getD (0+st.length+1) 0=b.top (szA st+a.sz):=by
 rw[jE,wG,yZ (by rw[wN];simp),wN,Rp];simp
theorem yIv{g:List Nd × List Nd × Int × Int × List Int × Unit->Option Bool}{i:Nat}{v:NV}(hn:5<=n)(hl:l.length<1000000)(hi:i<l.length)(hv:l[i]?=some v.node)(hok:v.ok=true)(hw:zIo v.node)(hst:st.length<=i)(hsz:szA st=i)(he:encR st=l.take i):jT n g (l,l,(l.length:Int),(i:Int),jE st,())=match mY l.length st v with
  |none=>some false
  |some st2=>g (l,l,(l.length:Int),((i+1:Nat):Int),jE st2,()):=by
 unfold jT;simp only;have hget:∀ d,aM d l (i:Int)=v.node:=by
  intro d;rw[Mj hi];rw[wW hi]at hv;exact qBc hv
 rw[bG (by simp;omega),aI (Jc hi),hget,parts_eq];simp only[aK];have hone:yT n v.node=some true:=by
  rcases yIq (n:=n) hw with ⟨h,_⟩|⟨_,h⟩
  ·exact h
  ·have:=h v rfl;rw[hok]at this;exact absurd this (by simp)
 rw[hone];simp only[aK,qCc,bS];have hi1:qEq .i64 ((i:Int)+1)=((i+1:Nat):Int):=by rw[bD (by omega) (by omega)];rfl
 have hlen:=wN st;have hfin:∀ (v0:NV) (k:Nat) (st2:List Pt),k<=st.length->jE st2=(jE st).take k++[(i:Int)] ->
  chk ((decide ((0:Int)<=(k:Int))&&decide ((k:Int)<=(st.length:Int)))) (
   chk ((qBg ((k:Int).toNat) st.length&&qBg ((((k:Int).toNat)+([(i:Int)]:List Int).length)*8) room)) (
    g (l,l,(l.length:Int),qEq .i64 ((i:Int)+1),(jE st).take ((k:Int).toNat)++[(i:Int)],())))=g (l,l,(l.length:Int),((i+1:Nat):Int),jE st2,()):=by
  intro v0 k st2 hk h2;rw[aI (by simp;omega),aI (by simp[room];omega),hi1,qCg,h2]
 have hd:Ty.dflt (.int .i64)=(0:Int):=rfl;have hK:∀ (p:Nat),p<=st.length->qEq .i64 (((st.length:Nat):Int)-(p:Int))=((st.length-p:Nat):Int):=by
  intro p hp;rw[bD (by omega) (by omega)];omega
 have htop:∀ t:Pt,t.sz=1->jE (t::st)=(jE st).take st.length++[(i:Int)]:=by
  intro t ht;rw[zH (by omega)];simp only[jE,Pt.top,ht,hsz];congr 2;omega
 rw[hlen];have hcut:∀ (p:Nat),p<=st.length->((st.length-((st.length-p:Nat):Int).toNat:Nat):Int)=(p:Int):=by
  intro p hp;rw[qCg];omega
 cases v with
 |empty =>
  rw[show(NV.empty).parts=0 from rfl,hK 0 (by omega),aQ (by simp),bG (by rfl)];by_cases h1:l.length>1
  ·rw[bG (by simp;omega)];simp only[mY];rw[if_pos h1]
  ·rw[aQ (by simp;omega),aI (by simp),hcut 0 (by omega),aQ (by simp),Ml (by simp[NV.node]) (by simp[NV.node]) (by simp[NV.node])];simp only[aK,qCc,bS,mY];rw[if_neg h1];exact hfin .empty _ _ (by omega) (htop .empty rfl)
 |bytes p =>
  rw[show(NV.bytes p).parts=0 from rfl,hK 0 (by omega),aQ (by simp),aQ (by rfl),aI (by simp),hcut 0 (by omega),aQ (by simp),Ml (by simp[NV.node]) (by simp[NV.node]) (by simp[NV.node])];simp only[aK,qCc,bS,mY];exact hfin .empty _ _ (by omega) (htop (.bytes p) rfl)
 |bol =>
  rw[show(NV.bol).parts=0 from rfl,hK 0 (by omega),aQ (by simp),aQ (by rfl),aI (by simp),hcut 0 (by omega),aQ (by simp),Ml (by simp[NV.node]) (by simp[NV.node]) (by simp[NV.node])];simp only[aK,qCc,bS,mY];exact hfin .empty _ _ (by omega) (htop .bol rfl)
 |eol =>
  rw[show(NV.eol).parts=0 from rfl,hK 0 (by omega),aQ (by simp),aQ (by rfl),aI (by simp),hcut 0 (by omega),aQ (by simp),Ml (by simp[NV.node]) (by simp[NV.node]) (by simp[NV.node])];simp only[aK,qCc,bS,mY];exact hfin .empty _ _ (by omega) (htop .eol rfl)
 |ref m =>
  rw[show(NV.ref m).parts=0 from rfl,hK 0 (by omega),aQ (by simp),aQ (by rfl),aI (by simp),hcut 0 (by omega),aQ (by simp),Ml (by simp[NV.node]) (by simp[NV.node]) (by simp[NV.node])];simp only[aK,qCc,bS,mY];exact hfin .empty _ _ (by omega) (htop (.ref m) rfl)
 |times x lo hi =>
  cases st with
  |nil=>rfl
  |cons a st =>
   have ha:At l (szA st) a:=at_one he;rw[show(NV.times x lo hi).parts=1 from rfl,hK 1 (by simp),aQ (by simp),aQ (by rfl),aI (by simp;omega),hcut 1 (by simp),bG (by rfl)];simp only[xI,qGt,qCg];rw[aI (by simp[inB]),aI (by simp),hd,show(0:Int).toNat=0 from rfl,zZx];simp only[mY,NV.node];by_cases hx:a.top (szA st)=x
   ·subst hx;rw[aQ (by simp),aQ (by rfl)];have hf:=yRk (n:=n) (lo:=lo) (hi:=hi) hn ha;simp only[NV.node]at hf;rw[hf];simp only[aK];have hlt:=a.Cu;by_cases hk:a.kind=1\/a.kind=7\/a.kind=8
    ·rw[if_pos ⟨trivial,hk⟩,aQ (by rcases hk with h|h|h<;>simp[h])];have e:jE (.times a lo hi::st)=(jE (a::st)).take st.length++[(i:Int)]:=by
      rw[zZw];simp only[jE,Pt.top,Pt.sz];rw[Rp]at hsz;congr 2;omega
     have:=hfin .empty st.length (.times a lo hi::st) (by simp) e;simpa using this
    ·rw[if_neg (λh=>hk h.2),bG (by simp only[not_or]at hk;simp[hk.1,hk.2.1,hk.2.2])]
   ·rw[if_neg (λh=>hx h.1),bG (by simpa using hx)]
 |group x m =>
  cases st with
  |nil=>rfl
  |cons a st =>
   have ha:At l (szA st) a:=at_one he;rw[show(NV.group x m).parts=1 from rfl,hK 1 (by simp),aQ (by simp),aQ (by rfl),aI (by simp;omega),hcut 1 (by simp),bG (by rfl)];simp only[xI,qGt,qCg];rw[aI (by simp[inB]),aI (by simp),hd,show(0:Int).toNat=0 from rfl,zZx];simp only[mY,NV.node];by_cases hx:a.top (szA st)=x
   ·subst hx;rw[aQ (by simp),aQ (by rfl)];have hf:=Ml (n:=n) (l:=l) (v:=.group (a.top (szA st)) m) (by simp[NV.node]) (by simp[NV.node]) (by simp[NV.node]);simp only[NV.node]at hf;rw[hf];simp only[aK];have hlt:=a.Cu;rw[if_pos trivial,aQ (by rfl)];have e:jE (.group a m::st)=(jE (a::st)).take st.length++[(i:Int)]:=by
     rw[zZw];simp only[jE,Pt.top,Pt.sz];rw[Rp]at hsz;congr 2;omega
    have:=hfin .empty st.length (.group a m::st) (by simp) e;simpa using this
   ·rw[if_neg hx,bG (by simpa using hx)]
 |cat x y =>
  match st,hlen,hsz,he,hst,hK,hcut,hfin with
  |[],_,_,_,_,_,_,_=>rfl
  |[_],_,_,_,_,_,_,_=>rfl
  |b::a::st,hlen,hsz,he,hst,hK,hcut,hfin =>
   obtain⟨ha,hb⟩:=yVc he;rw[show(NV.cat x y).parts=2 from rfl,hK 2 (by simp),aQ (by simp),aQ (by rfl),aI (by simp;omega),hcut 2 (by simp),bG (by rfl)];simp only[xI,qGt,qCg,show ∀ k,k+1+1-2=k from λk=>rfl];rw[aI (by simp[inB];omega),aI (by simp;omega),hd,show(0:Int).toNat=0 from rfl,show(1:Int).toNat=1 from rfl,yIt,yIu];simp only[mY,NV.node];by_cases hx:a.top (szA st)=x
   ·subst hx;rw[aQ (by simp),bG (by rfl),aI (by simp[inB];omega),aI (by simp)];by_cases hy:b.top (szA st+a.sz)=y
    ·subst hy;rw[aQ (by simp)];have hf:=yZt (n:=n) ha hb;simp only[NV.node]at hf;rw[hf];simp only[aK];have hlt:=a.Cu;by_cases hk:a.kind≠4/\a.kind≠5/\b.kind≠5
     ·rw[if_pos ⟨trivial,trivial,hk⟩,decide_eq_true hk,aQ (by rfl)];have e:jE (.cat a b::st)=(jE (b::a::st)).take st.length++[(i:Int)]:=by
       rw[yIs];simp only[jE,Pt.top,Pt.sz];rw[Rp,Rp]at hsz;congr 2;omega
      have:=hfin .empty st.length (.cat a b::st) (by simp;omega) e;simpa using this
     ·rw[if_neg (λh=>hk h.2.2),decide_eq_false hk,bG (by rfl)]
    ·rw[if_neg (λh=>hy h.2.1),bG (by simpa using hy)]
   ·rw[if_neg (λh=>hx h.1),bG (by simpa using hx)]
 |alt x y =>
  match st,hlen,hsz,he,hst,hK,hcut,hfin with
  |[],_,_,_,_,_,_,_=>rfl
  |[_],_,_,_,_,_,_,_=>rfl
  |b::a::st,hlen,hsz,he,hst,hK,hcut,hfin =>
   obtain⟨ha,hb⟩:=yVc he;rw[show(NV.alt x y).parts=2 from rfl,hK 2 (by simp),aQ (by simp),aQ (by rfl),aI (by simp;omega),hcut 2 (by simp),bG (by rfl)];simp only[xI,qGt,qCg,show ∀ k,k+1+1-2=k from λk=>rfl];rw[aI (by simp[inB];omega),aI (by simp;omega),hd,show(0:Int).toNat=0 from rfl,show(1:Int).toNat=1 from rfl,yIt,yIu];simp only[mY,NV.node];by_cases hx:a.top (szA st)=x
   ·subst hx;rw[aQ (by simp),bG (by rfl),aI (by simp[inB];omega),aI (by simp)];by_cases hy:b.top (szA st+a.sz)=y
    ·subst hy;rw[aQ (by simp)];have hf:=yZu (n:=n) (y:=b.top (szA st+a.sz)) ha;simp only[NV.node]at hf;rw[hf];simp only[aK];have hlt:=a.Cu;by_cases hk:a.kind≠5
     ·rw[if_pos ⟨trivial,trivial,hk⟩,decide_eq_true hk,aQ (by rfl)];have e:jE (.alt a b::st)=(jE (b::a::st)).take st.length++[(i:Int)]:=by
       rw[yIs];simp only[jE,Pt.top,Pt.sz];rw[Rp,Rp]at hsz;congr 2;omega
      have:=hfin .empty st.length (.alt a b::st) (by simp;omega) e;simpa using this
     ·rw[if_neg (λh=>hk h.2.2),decide_eq_false hk,bG (by rfl)]
    ·rw[if_neg (λh=>hy h.2.1),bG (by simpa using hy)]
   ·rw[if_neg (λh=>hx h.1),bG (by simpa using hx)]
end
end Go.Dec
namespace Go.Dec
theorem yIw:∀ st:List Pt,st.length<=szA st
 |[]=>aS _
 |t::st=>by have:=yIw st;have:=t.Cu;simp only[xI,szA];omega
theorem yIx{len:Nat}{st st2:List Pt}{v:NV}(h:mY len st v=some st2):szA st2=szA st+1:=by
 have:=congrArg qGo (zCt h);rw[xG,Ro,Ro]at this;simpa using this
section
variable {n:Nat}{l:List Nd}
theorem yBp{i:Nat}{x:Nd}(h:l[i]?=some x):l.take (i+1)=l.take i++[x]:=by
 rw[List.take_add_one,h];rfl
theorem yMt(hn:5<=n)(hl:l.length<1000000)(hw:∀ nd∈l,zIo nd):∀ (vs:List NV) (i:Nat) (st:List Pt) (m:Nat),vs.map NV.node=l.drop i->(∀ v∈vs,v.ok=true)->i<=l.length->szA st=i->encR st=l.take i->vs.length<m ->
 fix (jT n) m (l,l,(l.length:Int),(i:Int),jE st,())=match wX l.length vs st with
  |none=>some false
  |some st2=>some (decide (st2.length=1)):=by
 intro vs;induction vs with
 |nil =>
  intro i st m hvs _ hi hsz he hm;have hi2:i=l.length:=by
   have:=congrArg qGo hvs;rw[yV]at this;simp at this;omega
  rw[lZ hm,jT];simp only;rw[aQ (by simp;omega),wN];simp only[wX];congr 1;rw[qFu];simp;omega
 |cons v vs ih =>
  intro i st m hvs hok hi hsz he hm;have hil:i<l.length:=by
   have:=congrArg qGo hvs;rw[yV]at this;simp at this;omega
  have hv:l[i]?=some v.node:=by
   have:(l.drop i)[0]?=some v.node:=by rw[<- hvs];rfl
   rw[List.getElem?_drop]at this;simpa using this
  have xMh:vs.map NV.node=l.drop (i+1):=by
   have:(l.drop i).drop 1=vs.map NV.node:=by rw[<- hvs];rfl
   rw[List.drop_drop]at this;exact this.symm
  have hst:=yIw st;rw[lZ (by omega),yIv hn hl hil hv (hok v (by simp)) (hw _ (qDk hv)) (by omega) hsz he];simp only[wX];cases hs:mY l.length st v with
  |none=>rfl
  |some st2 =>
   simp only;exact ih (i+1) st2 (m-1) xMh (λv hv=>hok v (by simp[hv])) (by omega) (by rw[yIx hs];omega) (by rw[zCt hs,he,yBp hv]) (by simp only[xI]at hm;omega)
theorem xDu(hn:5<=n)(hl:l.length<1000000)(hw:∀ nd∈l,zIo nd){j:Nat}{x:Nd}(hj:l[j]?=some x)(hx:∀ v:NV,x=v.node->v.ok=false):∀ (k i:Nat) (st:List Pt) (m:Nat),i+k=j->szA st=i->encR st=l.take i->k<m ->
 fix (jT n) m (l,l,(l.length:Int),(i:Int),jE st,())=some false:=by
 have hjl:j<l.length:=(bK.1 hj).1;intro k;induction k with
 |zero =>
  intro i st m hi hsz he hm;have hi:i=j:=by omega
  subst hi;rw[lZ hm,jT];simp only;have hget:∀ d,aM d l (i:Int)=x:=by
   intro d;rw[Mj hjl];rw[wW hjl]at hj;exact qBc hj
  rw[bG (by simp;omega),aI (Jc hjl),hget];have hone:yT n x=some false:=by
   rcases yIq (n:=n) (hw x (qDk hj))with ⟨_,v,h1,h2⟩|⟨h,_⟩
   ·rw[hx v h1]at h2;exact absurd h2 (by simp)
   ·exact h
  rw[hone];have hp:∃ p,qL n x=some p:=by
   unfold qL;simp only;cases(x.1==4)<;>cases(x.1==5)<;>cases(x.1==6)<;>cases(x.1==7)<;>exact⟨_,rfl⟩
  obtain⟨p,hp⟩:=hp;rw[hp];rfl
 |succ k ih =>
  intro i st m hi hsz he hm;have hil:i<l.length:=by omega
  have hli:l[i]?=some l[i]:=wW hil;have hst:=yIw st;rcases yIq (n:=n) (hw _ (qDk hli))with ⟨_,v,h1,h2⟩|⟨h,_⟩
  ·rw[h1]at hli;rw[lZ (by omega),yIv hn hl hil hli h2 (hw _ (qDk hli)) (by omega) hsz he];cases hs:mY l.length st v with
   |none=>rfl
   |some st2 =>
    simp only;exact ih (i+1) st2 (m-1) (by omega) (by rw[yIx hs];omega) (by rw[zCt hs,he,yBp hli]) (by omega)
  ·rw[lZ (by omega),jT];simp only;have hget:∀ d,aM d l (i:Int)=l[i]:=λd=>Mj hil
   rw[bG (by simp;omega),aI (Jc hil),hget,h];have hp:∃ p,qL n l[i]=some p:=by
    unfold qL;simp only;cases(l[i].1==4)<;>cases(l[i].1==5)<;>cases(l[i].1==6)<;>cases(l[i].1==7)<;>exact⟨_,rfl⟩
   obtain⟨p,hp⟩:=hp;rw[hp];rfl
theorem yBq{len:Nat}:∀ (vs:List NV) (st st2:List Pt),(∀ v∈vs,v.ok=true)->(∀ t∈st,Us len t)->wX len vs st=some st2->encR st2=encR st++vs.map NV.node/\∀ t∈st2,Us len t
 |[],st,st2,_,hst,h=>by simp only[wX,aA]at h;subst h;exact⟨by simp,hst⟩
 |v::vs,st,st2,hv,hst,h=>by
  simp only[wX]at h;cases hs:mY len st v with
  |none=>rw[hs]at h;simp at h
  |some st3 =>
   rw[hs]at h;have:=yBq vs st3 st2 (λv h=>hv v (by simp[h])) (yZs (hv v (by simp)) hst hs) h;exact⟨by rw[this.1,zCt hs,wE];rfl,this.2⟩
theorem zXj:∀ l:List Nd,(∃ vs:List NV,vs.map NV.node=l/\∀ v∈vs,v.ok=true)\/(∃ (j:Nat) (x:Nd),l[j]?=some x/\∀ v:NV,x=v.node->v.ok=false)
 |[]=>Or.inl ⟨[],rfl,by simp⟩
 |x::l=>by
  by_cases hx:∃ v:NV,x=v.node/\v.ok=true
  ·obtain⟨v,h1,h2⟩:=hx;rcases zXj l with ⟨vs,h3,h4⟩|⟨j,y,h3,h4⟩
   ·exact Or.inl ⟨v::vs,by rw[qBt,h3,h1],by intro u hu;rcases qEu.1 hu with rfl|hu;exact h2;exact h4 u hu⟩
   ·exact Or.inr ⟨j+1,y,by simpa using h3,h4⟩
  ·exact Or.inr ⟨0,x,rfl,λv hv=>by
    cases h:v.ok
    ·rfl
    ·exact absurd ⟨v,hv,h⟩ hx⟩
theorem yRl(hn:5<=n)(hnl:l.length<n)(hl:l.length<1000000)(hw:∀ nd∈l,zIo nd):(Ho n l=some true/\∃ t,l=t.enc 0/\Us l.length t)\/(Ho n l=some false/\∀ t,l=t.enc 0->¬ Us l.length t):=by
 unfold Ho;simp only;have hcomp:∀ t,l=t.enc 0->Us l.length t->fix (jT n) n (l,l,(l.length:Int),0,[],())=some true:=by
  intro t ht hk;have hm:(t.nvs 0).map NV.node=l.drop 0:=by rw[Mk,ht];rfl
  have hvl:(t.nvs 0).length=l.length:=by have:=congrArg qGo hm;simpa using this
  have:=yMt hn hl hw (t.nvs 0) 0 [] n hm (zBb t 0 hk.1) (by omega) rfl (by rfl) (by omega);have hf:=Ch l.length t [] hk.2.1 hk.2.2;rw[show szA []=0 from rfl]at hf;rw[hf]at this;exact this
 rcases zXj l with ⟨vs,h1,h2⟩|⟨j,x,h1,h2⟩
 ·have hvl:vs.length=l.length:=by have:=congrArg qGo h1;simpa using this
  have hN:=yMt hn hl hw vs 0 [] n (by rw[h1];rfl) h2 (by omega) rfl (by rfl) (by omega);rw[show((0:Nat):Int)=0 from rfl,show jE []=[]from rfl]at hN;cases hf:wX l.length vs []with
  |none =>
   rw[hf]at hN;refine Or.inr ⟨hN,λt ht hk=>?_⟩;have:=hcomp t ht hk;rw[hN]at this;simp at this
  |some st2 =>
   rw[hf]at hN;obtain⟨ho1,ho2⟩:=yBq vs [] st2 h2 (by simp) hf;by_cases h1l:st2.length=1
   ·match st2,h1l with
    |[t],_ =>
     refine Or.inl ⟨hN,t,?_,ho2 t (by simp)⟩;simp only[encR,szA,qDc,h1]at ho1;exact ho1.symm
   ·simp only[decide_eq_false h1l]at hN;refine Or.inr ⟨hN,λt ht hk=>?_⟩;have:=hcomp t ht hk;rw[hN]at this;simp at this
 ·have hjl:j<l.length:=(bK.1 h1).1;have hB:=xDu hn hl hw h1 h2 j 0 [] n (by omega) rfl rfl (by omega);refine Or.inr ⟨hB,λt ht hk=>?_⟩;have:=hcomp t ht hk;rw[show((0:Nat):Int)=0 from rfl,show jE []=[]from rfl]at hB;rw[hB]at this;simp at this
end
abbrev W4:Type:=Nat × Bool × List Bool × Bool
def mE:Pt->W4->W4 | .cat a b,w=>mE b (mE a w) | .alt a b,w=>mE b (mE a w) | .times a _ _,w=>mE a w | .group a m,w=>((mE a (w.1+1,w.2.1&&decide (m = w.1+1),w.2.2.1,w.2.2.2)).1,(mE a (w.1+1,w.2.1&&decide (m = w.1+1),w.2.2.1,w.2.2.2)).2.1,(mE a (w.1+1,w.2.1&&decide (m = w.1+1),w.2.2.1,w.2.2.2)).2.2.1.set m true,(mE a (w.1+1,w.2.1&&decide (m = w.1+1),w.2.2.1,w.2.2.2)).2.2.2) | .ref m,w=>(w.1,w.2.1&&w.2.2.1.getD m false,w.2.2.1,true) | _,w=>w
theorem Ci:∀ (t:Pt) (w:W4),(mE t w).2.2.1.length=w.2.2.1.length
 |.cat a b,w=>by simp only[mE];rw[Ci b,Ci a]
 |.alt a b,w=>by simp only[mE];rw[Ci b,Ci a]
 |.times a _ _,w=>by simp only[mE];rw[Ci a]
 |.group a m,w=>by simp only[mE,qAx];rw[Ci a]
 |.ref m,w=>rfl
 |.empty,w|.bol,w|.eol,w|.bytes _,w=>rfl
theorem Ut:∀ (t:Pt) (w:W4),(mE t w).1<=w.1+t.sz
 |.cat a b,w=>by simp only[mE,Pt.sz];have:=Ut b (mE a w);have:=Ut a w;omega
 |.alt a b,w=>by simp only[mE,Pt.sz];have:=Ut b (mE a w);have:=Ut a w;omega
 |.times a _ _,w=>by simp only[mE,Pt.sz];have:=Ut a w;omega
 |.group a m,w=>by simp only[mE,Pt.sz];have:=Ut a (w.1+1,w.2.1&&decide (m=w.1+1),w.2.2.1,w.2.2.2);simp only at this;omega
 |.ref m,w=>by simp only[mE];omega
 |.empty,w|.bol,w|.eol,w|.bytes _,w=>by simp only[mE];omega
def W4.out (l:List Nd) (w:W4):Option (List Nd×Int×Bool×List Bool×Bool×Unit):=some (l,(w.1:Int),w.2.1,w.2.2.1,w.2.2.2,())
theorem zJm{l:List Nd}(hl:l.length<1000000):∀ (t:Pt) (o m:Nat) (w:W4),At l o t->xK t=true->t.sz<=m->w.1+t.sz<1000000->w.2.2.1.length=10 ->
 tZ m (t.top o,l,(w.1:Int),w.2.1,w.2.2.1,w.2.2.2,())=W4.out l (mE t w):=by
 intro t;have start:∀ {t:Pt}{o m:Nat}{x:List Nd × Int × Bool × List Bool × Bool × Unit},At l o t->tZ (m+1) (t.top o,x)=fA m (tZ m) (t.top o,x):=λ_=>rfl
 induction t with
 |empty =>
  intro o m w h hf hm hg he;obtain⟨m,rfl⟩:∃ k,m=k+1:=⟨m-1,by simp only[Pt.sz]at hm;omega⟩;rw[start h];unfold fA;simp only;rw[aI h.top.1,h.top.2];rfl
 |bytes p =>
  intro o m w h hf hm hg he;obtain⟨m,rfl⟩:∃ k,m=k+1:=⟨m-1,by simp only[Pt.sz]at hm;omega⟩;rw[start h];unfold fA;simp only;rw[aI h.top.1,h.top.2];rfl
 |bol =>
  intro o m w h hf hm hg he;obtain⟨m,rfl⟩:∃ k,m=k+1:=⟨m-1,by simp only[Pt.sz]at hm;omega⟩;rw[start h];unfold fA;simp only;rw[aI h.top.1,h.top.2];rfl
 |eol =>
  intro o m w h hf hm hg he;obtain⟨m,rfl⟩:∃ k,m=k+1:=⟨m-1,by simp only[Pt.sz]at hm;omega⟩;rw[start h];unfold fA;simp only;rw[aI h.top.1,h.top.2];rfl
 |ref k =>
  intro o m w h hf hm hg he;obtain⟨m,rfl⟩:∃ k,m=k+1:=⟨m-1,by simp only[Pt.sz]at hm;omega⟩;simp only[xK,aD,decide_eq_true_eq]at hf;rw[start h];unfold fA;simp only;rw[aI h.top.1,h.top.2];simp only[Pt.nv,NV.node];rw[aQ (by rfl),aQ (by rfl),aQ (by rfl),aQ (by rfl),bG (by rfl),aI (Jc (i:=k) (n:=10) (by omega)),aI (by exact decide_eq_true (show k<10 by omega))];simp only[mE,W4.out,qCg];cases w.2.1<;>rfl
 |cat a b iha ihb =>
  intro o m w h hf hm hg he;obtain⟨m,rfl⟩:∃ k,m=k+1:=⟨m-1,by simp only[Pt.sz]at hm;omega⟩;simp only[xK,aD]at hf;simp only[Pt.sz]at hm hg;rw[start h];unfold fA;simp only;rw[aI h.top.1,h.top.2];simp only[Pt.nv,NV.node];have hga:=Ut a w;rw[bG (by rfl),bG (by rfl),iha o m w h.xIa.1 hf.1 (by omega) (by omega) he];simp only[W4.out,aK];rw[ihb (o+a.sz) m (mE a w) h.xIa.2 hf.2 (by omega) (by omega) (by rw[Ci];exact he)];rfl
 |alt a b iha ihb =>
  intro o m w h hf hm hg he;obtain⟨m,rfl⟩:∃ k,m=k+1:=⟨m-1,by simp only[Pt.sz]at hm;omega⟩;simp only[xK,aD]at hf;simp only[Pt.sz]at hm hg;rw[start h];unfold fA;simp only;rw[aI h.top.1,h.top.2];simp only[Pt.nv,NV.node];have hga:=Ut a w;rw[aQ (by rfl),bG (by rfl),iha o m w h.alt1.1 hf.1 (by omega) (by omega) he];simp only[W4.out,aK];rw[ihb (o+a.sz) m (mE a w) h.alt1.2 hf.2 (by omega) (by omega) (by rw[Ci];exact he)];rfl
 |times a lo hi iha =>
  intro o m w h hf hm hg he;obtain⟨m,rfl⟩:∃ k,m=k+1:=⟨m-1,by simp only[Pt.sz]at hm;omega⟩;simp only[xK,aD]at hf;simp only[Pt.sz]at hm hg;rw[start h];unfold fA;simp only;rw[aI h.top.1,h.top.2];simp only[Pt.nv,NV.node];rw[aQ (by rfl),aQ (by rfl),bG (by rfl),iha o m w h.xIb hf.1 (by omega) (by omega) he];rfl
 |group a k iha =>
  intro o m w h hf hm hg he;obtain⟨m,rfl⟩:∃ k,m=k+1:=⟨m-1,by simp only[Pt.sz]at hm;omega⟩;simp only[xK,aD,decide_eq_true_eq]at hf;simp only[Pt.sz]at hm hg;rw[start h];unfold fA;simp only;rw[aI h.top.1,h.top.2];simp only[Pt.nv,NV.node];rw[aQ (by rfl),aQ (by rfl),aQ (by rfl),bG (by rfl),bD (by omega) (by omega),show(w.1:Int)+1=((w.1+1:Nat):Int)from rfl];have hI:=iha o m (w.1+1,w.2.1&&decide (k=w.1+1),w.2.2.1,w.2.2.2) h.xIc hf.1 (by omega) (by simp only;omega) he;simp only at hI;have he2:((k:Int)==((w.1+1:Nat):Int))=decide (k=w.1+1):=by rw[qFu,beq_iff_eq,decide_eq_true_eq];omega
  have hlen:=Ci a (w.1+1,w.2.1&&decide (k=w.1+1),w.2.2.1,w.2.2.2);rw[he2];cases hb:w.2.1<;>rw[hb]at hI hlen
  ·simp only[qFv]at hI hlen;rw[bS,hI];simp only[W4.out,aK];rw[aI (Jc (i:=k) (n:=10) (by omega)),aI (by exact decide_eq_true (show k<10 by omega))];simp only[mE,hb,qFv,qCg]
  ·simp only[qFw]at hI hlen;rw[dH,hI];simp only[W4.out,aK];rw[aI (Jc (i:=k) (n:=10) (by omega)),aI (by exact decide_eq_true (show k<10 by omega))];simp only[mE,hb,qFw,qCg]
def w0:W4:=(0,true,zAv,false)
def xBr (t:Pt):Prop:=t.sz<=120 ∧ Us t.sz t ∧ (mE t w0).2.1 = true
theorem yRm{n:Nat}{l:List Nd}(hn:200<=n)(hw:∀ nd∈l,zIo nd):(∃ t,xBr t/\l=t.enc 0/\Xx n l=some (((mE t w0).1:Int),(mE t w0).2.2.2,true))\/((∀ t,xBr t->l≠t.enc 0)/\Xx n l=some (0,false,false)):=by
 unfold Xx;simp only;have hsz:∀ t:Pt,l=t.enc 0->l.length=t.sz:=λt h=>by rw[h,Pt.iW]
 by_cases h0:l.length=0
 ·rw[bG (by rw[h0];rfl)];exact Or.inr ⟨λt _ h=>by have:=hsz t h;have:=t.Cu;omega,rfl⟩
 rw[aQ (by simp;intro h;rw[h]at h0;simp at h0)];by_cases h1:l.length>120
 ·rw[bG (by simp;omega)];exact Or.inr ⟨λt ht h=>by have:=hsz t h;have:=ht.1;omega,rfl⟩
 rw[aQ (by simp;omega)];rcases yRl (n:=n) (l:=l) (by omega) (by omega) (by omega) hw with ⟨ho,t,ht,hk⟩|⟨ho,hno⟩
 ·rw[ho];simp only[aK,qCc,bS];unfold Sd;simp only;have hlt:=hsz t ht;have htp:=t.Cu;rw[bD (by omega) (by omega),show(l.length:Int)-1=t.top 0 by unfold Pt.top;omega];have hA:At l 0 t:=by have:=At.self t;rw[<- ht]at this;exact this
  have hN:=zJm (l:=l) (by omega) t 0 n w0 hA hk.1 (by omega) (by simp only[w0];omega) rfl;have hw0:tZ n (t.top 0,l,0,true,[false,false,false,false,false,false,false,false,false,false],false,())=W4.out l (mE t w0):=hN;rw[hw0];simp only[W4.out,aK];cases hi:(mE t w0).2.1
  ·refine Or.inr ⟨λu hu h=>?_,rfl⟩;have hu2:=hu.2.2;have hlu:=hsz u h;have hB:At l 0 u:=by have:=At.self u;rw[<- h]at this;exact this
   have htop:t.top 0=u.top 0:=by unfold Pt.top;omega
   have hM:=zJm (l:=l) (by omega) u 0 n w0 hB hu.2.1.1 (by omega) (by simp only[w0];omega) rfl;rw[<- htop,hN]at hM;simp only[W4.out,aA,aC]at hM;have:=hM.2.2.1;rw[hi,hu2]at this;simp at this
  ·rw[hlt]at hk;exact Or.inl ⟨t,⟨by omega,hk,hi⟩,ht,rfl⟩
 ·rw[ho];simp only[aK,Bool.not_false,dH];exact Or.inr ⟨λt ht h=>by have:=hno t h;rw[hsz t h]at this;exact this ht.2.1,by first|rfl|trivial⟩
end Go.Dec
namespace Go.Dec
theorem yRn(s:List UInt8):match zAw s with
 |.inl t=>s≠[]->t.sz<=120
 |.inr (e,k)=>k<=s.length/\(e=2\/(40<=e/\e<=44)):=by
 cases s with
 |nil=>simp[zAw]
 |cons c s0 =>
  have hps:zAw (c::s0)=match nP 11 (c::s0) 0 zAv with
   |.er e k=>.inr (e,(c::s0).length-k)
   |.ok t r _ _ =>
    match r with
    |[]=>match t with
     |none=>.inr (41,(c::s0).length)
     |some t=>bif decide (t.sz>120)then .inr (2,0)else .inl t
    |_=>.inr (41,(c::s0).length-r.length):=rfl
  rw[hps];have hgood:=(Rn 11 (c::s0) 0 zAv (by omega) (by omega) rfl).1;cases ho:nP 11 (c::s0) 0 zAv with
  |er e k =>
   rw[ho]at hgood;exact⟨by omega,Or.inr hgood⟩
  |ok t r b2 en2 =>
   simp only;cases r with
   |cons c2 r2=>exact⟨by omega,Or.inr ⟨by omega,by omega⟩⟩
   |nil =>
    cases t with
    |none=>exact⟨by omega,Or.inr ⟨by omega,by omega⟩⟩
    |some t =>
     simp only;by_cases h:t.sz>120
     ·rw[decide_eq_true h];exact⟨by omega,Or.inl rfl⟩
     ·rw[decide_eq_false h];exact λ_=>by omega
variable {n:Nat}
theorem xDv(t:Pt)(o:Nat):∀ nd∈t.enc o,zIo nd:=by
 intro nd h;rw[<- Mk]at h;obtain⟨v,_,rfl⟩:=List.mem_map.1 h;cases v with
 |bytes p=>exact⟨p,rfl⟩
 |_=>exact⟨λ_=>false,xQ.symm⟩
def zIp (l:List NdT):Prop:=0<l.length ∧ l.length<=120 ∧ ∀ nd ∈ l,zIo nd
theorem xIe{s:List UInt8}(hs:s.length<=5000)(hn:20000<=n):Ans (Lx n s) λy=>y.2.2=0->zIp y.1:=by
 rw[yIo (by omega) (by omega)];refine Ans.some ?_;have hg:=yRn s;cases h:zAw s with
 |inl t =>
  rw[h]at hg;intro _;have hp:=t.Cu;have yIp:t.sz<=120:=by
   cases s with
   |nil=>simp only[zAw,Sum.inl.injEq]at h;subst h;simp[Pt.sz]
   |cons a r=>exact hg (by simp)
  simp only[yIn];exact⟨by rw[Pt.iW];omega,by rw[Pt.iW];omega,xDv t 0⟩
 |inr q =>
  rw[h]at hg;obtain⟨e,k⟩:=q;intro he;simp only[yIn]at he hg;omega
theorem yVd{l:List NdT}(hn:200<=n)(h:zIp l):Ans (Td n l) λ_=>True:=by
 unfold Td;rcases yRm (n:=n) (l:=l) hn h.2.2 with ⟨t,_,_,h3⟩|⟨_,h3⟩
 ·simp only[h3,aK];exact Ans.some trivial
 ·simp only[h3,aK];exact Ans.some trivial
abbrev PlT:Type:=Int × Int × List UInt8 × Unit
abbrev Rq:Type:=List UInt8 × Bool × Int × List (List NdT × Bool × Unit) × List Sc1 × List PlT × List PlT × List UInt8 × List Oz
def bQ (x:Sc0):Rq:=(x.1,x.2.1,x.2.2.1,x.2.2.2.2.2.2.2.2.2.2.2.2.2.2.2.2.2.2.2.2.2.1,x.2.2.2.2.2.2.2.2.2.2.2.2.2.2.2.2.2.2.2.2.2.2.1,x.2.2.2.2.2.2.2.2.2.2.2.2.2.2.2.2.2.2.2.2.2.2.2.1,x.2.2.2.2.2.2.2.2.2.2.2.2.2.2.2.2.2.2.2.2.2.2.2.2.1,x.2.2.2.2.2.2.2.2.2.2.2.2.2.1,x.2.2.2.2.2.2.2.2.2.2.2.2.2.2.2.2.2.2.1)
structure RdK (S:List UInt8) (c k:Nat) (q:Rq):Prop where
 s:q.1=S
 e:q.2.1=false
 lo:0<=q.2.2.1
 hi:q.2.2.1<=(S.length:Int)
 pats:∀ p∈q.2.2.2.1,zIp p.1
 pn:q.2.2.2.1.length<=999
 cn:q.2.2.2.2.1.length<=c
 op:∀ p∈q.2.2.2.2.2.1,0<=p.1/\p.1<(q.2.2.2.2.1.length:Int)+(k:Nat)
 wa:∀ p∈q.2.2.2.2.2.2.1,0<=p.1/\p.1<(q.2.2.2.2.1.length:Int)+(k:Nat)
 on:q.2.2.2.2.2.1.length<=c+k
 wn:q.2.2.2.2.2.2.1.length<=c+k
 tx:q.2.2.2.2.2.2.2.1.length<=4001/\q.2.2.2.2.2.2.2.2.length<=9000
 ct:∀ p∈q.2.2.2.2.1,p.2.2.1.length<=4001/\p.2.2.2.2.2.2.2.1.length<=9000
def Rd (S:List UInt8) (c k:Nat) (x:Sc0):Prop:=RdK S c k (bQ x)
def Nx (S:List UInt8) (c k:Nat) (x y:Sc0):Prop:=RdK S c k (bQ y) ∧ (bQ x).2.2.1<=(bQ y).2.2.1 ∧ (bQ x).2.2.2.1.length<=(bQ y).2.2.2.1.length
def qF (x:Sc0) (a:Int):Sc0:=(x.1,x.2.1,a,x.2.2.2)
section
variable {S:List UInt8}{c k:Nat}{x y z:Sc0}
theorem Nx.trans(h:Nx S c k x y)(g:Nx S c k y z):Nx S c k x z:=⟨g.1,qGq h.2.1 g.2.1,zG h.2.2 g.2.2⟩
theorem Nx.refl(h:Rd S c k x):Nx S c k x x:=⟨h,qEe _,aS _⟩
theorem Rd.at(h:Rd S c k x){a:Int}(h0:x.2.2.1<=a)(h1:a<=S.length):Nx S c k x (qF x a):=
 ⟨⟨h.s,h.e,qGq h.lo h0,h1,h.pats,h.pn,h.cn,h.op,h.wa,h.on,h.wn,h.tx,h.ct⟩,h0,aS _⟩
theorem Rd.Kv(h:Rd S c 0 x):Rd S c 1 x:=⟨h.s,h.e,h.lo,h.hi,h.pats,h.pn,h.cn,λp hp=>by have:=h.op p hp;exact⟨this.1,by omega⟩,λp hp=>by have:=h.wa p hp;exact⟨this.1,by omega⟩,zG h.on (by omega),zG h.wn (by omega),h.tx,h.ct⟩
def Fu (S:List UInt8) (n:Nat):Prop:=S.length<=4000 ∧ 20000<=n ∧ S.length<=900000
theorem Xq(b:List UInt8)(h:Rd S c k x):Ans (dG n (b,x)) λy=>y.2=x/\(y.1=true->x.2.2.1<(S.length:Int)/\∃ d,S[x.2.2.1.toNat]?=some d/\0<=Go.Lib.indexByte b d):=by
 have hs:x.1=S:=h.s;have hlo:0<=x.2.2.1:=h.lo;unfold dG;simp only[hs];refine Ans.br (λg=>?_) (λ_=>Ans.some ⟨rfl,λg=>by cases g⟩);have g:=jZ g;refine Ans.chk (bI hlo (by omega)) ?_;have hg:S[x.2.2.1.toNat]?=some (aM 0 S x.2.2.1):=by
  unfold aM;have:x.2.2.1.toNat<S.length:=by omega
  rw[wG,wW this];rfl
 unfold strings_IndexByte;rw[aK];refine Ans.some ⟨rfl,λq=>⟨g,_,hg,?_⟩⟩;have q:=jZ q;simpa using q
theorem Rs(b:List UInt8)(h:Rd S c k x)(hf:Fu S n):Ans (dK n (b,x)) λy=>∃ a,y.2=qF x a/\x.2.2.1<=a/\a<=S.length:=by
 have hhi:x.2.2.1<=S.length:=h.hi;have hlo:0<=x.2.2.1:=h.lo;have h4:=hf.1;unfold dK;refine Ans.ob _ (Xq b h) ?_;rintro⟨q,y⟩ ⟨hy,g⟩;simp only at hy g ⊢;subst hy;refine Ans.br (λ_=>Ans.some ⟨_,rfl,qEe _,hhi⟩) (λhq=>?_);have hq:q=true:=by simpa using hq
 have:=(g hq).1;rw[bD (by omega) (by omega)];exact Ans.some ⟨_,rfl,by omega,by omega⟩
theorem yI(h:Rd S c k x)(hf:Fu S n):Ans (bR n x) λy=>∃ a,y=qF x a/\x.2.2.1<=a/\a<=S.length:=by
 have hs:x.1=S:=h.s;obtain⟨f1,f2,f3⟩:=hf;unfold bR;simp only[hs];refine Ans.ob _ (yBd (n:=n) (s:=S) (a:=x.2.2.1) (by omega) f3 h.lo h.hi) ?_;rintro a ⟨g1,g2⟩;exact Ans.some ⟨a,by unfold qF;rw[hs],g1,g2⟩
theorem zTo(e:List UInt8)(h:Rd S c k x)(hf:Fu S n):Ans (eB n (e,x)) λy=>∃ a,y.2=qF x a/\x.2.2.1<=a/\a<=S.length/\y.1.length<=S.length:=by
 have hs:x.1=S:=h.s;unfold eB;refine Ans.ob _ (yI h hf) ?_;rintro _ ⟨a,rfl,g1,g2⟩;simp only at g1;obtain⟨f1,f2,f3⟩:=hf;have hlo:0<=x.2.2.1:=h.lo;simp only[qF,hs];refine Ans.ob _ (yMi (n:=n) (s:=S) (a:=a) (by omega) f3 (by omega) g2 e) ?_;rintro w ⟨k1,k2,k3⟩;exact Ans.some ⟨w.2,by simp only,by omega,k2,k3⟩
abbrev Ok{α β:Type}(P:α->Prop)(s:Sum α (Int × β)):Prop:=(∀ y,s=.inl y->P y)/\∀ z:Int × β,s=.inr z->z.1≠0
theorem okl{α β:Type}{P:α->Prop}{y:α}(h:P y):Ans (some (Sum.inl y:Sum α (Int × β))) (Ok P):=Ans.some ⟨λz e=>by cases e;exact h,λ_ e=>(nomatch e)⟩
theorem okr{α β:Type}{P:α->Prop}{e:Int}{w:β}(h:e≠0):Ans (some (Sum.inr (e,w):Sum α (Int × β))) (Ok P):=Ans.some ⟨λz e=>(nomatch e),λz e=>by cases e;exact h⟩
theorem iY{ρ:Type}{Q:ρ->Prop}{e:Int}{K:Unit->Option ρ}{K':Int × Unit->Option ρ}(h:Ans (K' (e,())) Q):Ans (ob2 (bB n (e,())) K K') Q:=h
theorem ok2{α β α' β':Type}{o:Option (Sum α (Int × β))}{K:α->Option (Sum α' (Int × β'))}{K':Int × β->Option (Sum α' (Int × β'))}{P:α->Prop}{Q:α'->Prop}(h:Ans o (Ok P))(hk:∀ y,P y->Ans (K y) (Ok Q))(hk':∀ z,∃ w,K' z=some (.inr (z.1,w))):Ans (ob2 o K K') (Ok Q):=
 Ans.ob2 P (λz=>z.1≠0) h hk λz hz=>by obtain⟨w,hw⟩:=hk' z;rw[hw];exact okr hz
theorem Rt{e:Int}:Ans (iI n (e,())) (Ok λ_=>e=0):=by
 unfold iI;simp only;refine Ans.br (λh=>iY (okr (by simpa using h))) (λh=>okl (by simpa using h))
theorem Ih(e:Int)(he:e≠0)(h:Rd S c k x)(hf:Fu S n):Ans (dY n (e,x)) (Ok λy=>∃ a,y.2=qF x a/\x.2.2.1<a/\a<=S.length):=by
 have hs:x.1=S:=h.s;obtain⟨f1,f2,f3⟩:=hf;unfold dY;simp only[hs];refine Ans.ob _ (yUo (n:=n) (s:=S) (a:=x.2.2.1) (by omega) f3 h.lo h.hi) ?_;rintro q ⟨g1,g2,g3⟩;refine Ans.br (λ_=>iY (okr he)) (λhq=>okl ⟨_,by unfold qF;rw[hs],g3 (by simpa using hq),g2⟩)
theorem any_ok(h:Rd S c k x)(hf:Fu S n):Ans (fP n x) (Ok λy=>y.2=qF x (x.2.2.1+1)/\x.2.2.1+1<=S.length):=by
 have hs:x.1=S:=h.s;have hlo:0<=x.2.2.1:=h.lo;have hhi:x.2.2.1<=S.length:=h.hi;obtain⟨f1,f2,f3⟩:=hf;unfold fP;simp only[hs];refine Ans.br (λ_=>iY (okr (by decide))) (λg=>?_);have g:x.2.2.1≠S.length:=by simpa using g
 rw[bD (x:=x.2.2.1+1) (by omega) (by omega),bD (by omega) (by omega)];refine Ans.chk (bI (by omega) (by omega)) (okl ⟨by unfold qF;rw[hs],by omega⟩)
theorem zIq(d:Int)(h:Rd S c k x)(hf:Fu S n):Ans (fB n (d,x)) (Ok λy=>∃ a,y.2=qF x a/\x.2.2.1<=a/\a<=S.length/\y.1.length<=S.length):=by
 have hs:x.1=S:=h.s;obtain⟨f1,f2,f3⟩:=hf;unfold fB;simp only[hs];refine Ans.ob _ (xDj (n:=n) (s:=S) (a:=x.2.2.1) (d:=d) (by omega) (by omega) h.lo h.hi) ?_;rintro q ⟨g1,g2,g3⟩;exact ok2 Rt (λ_ _=>okl ⟨_,by unfold qF;rw[hs],g1,g2,g3⟩) (λz=>⟨_,rfl⟩)
end
end Go.Dec
namespace Go.Dec
variable {n:Nat}{S:List UInt8}{c k:Nat}{x y z:Sc0}
def rpn (x:Sc0):Nat:=(bQ x).2.2.2.1.length
theorem zXk(d:Int)(h:Rd S c k x)(hf:Fu S n):Ans (fZ n (d,x)) (Ok λy=>Nx S c k x y.2/\y.1=(rpn x:Int)/\rpn y.2=rpn x+1):=by
 have he:x.2.1=false:=h.e;have hpn:rpn x<=999:=h.pn;unfold fZ;simp only[he];rw[bS];refine ok2 (zIq d h hf) ?_ (λz=>⟨_,rfl⟩);rintro⟨t,w⟩ ⟨a,hw,g1,g2,g3⟩;simp only at hw g1 g2 g3;subst hw;obtain⟨f1,f2,f3⟩:=hf;refine Ans.ob _ (xIe (n:=n) (s:=t) (by omega) f2) ?_;rintro⟨l,e1,e2⟩ hl;refine ok2 Rt ?_ (λz=>⟨_,rfl⟩);rintro _ hz;simp only at hl hz;have hl:=hl hz;refine Ans.br (λ_=>iY (okr (by decide))) (λhne=>?_);have hne:rpn x≠999:=by
  intro e;have:((rpn x:Nat):Int)=999:=by omega
  exact absurd hne (by rw[Bool.not_eq_false];exact beq_iff_eq.2 this)
 refine Ans.chk (Uo (m:=rpn x+1) (by omega)) (okl ?_);have hlen:((bQ x).2.2.2.1++[(l,(false,()))]).length=rpn x+1:=by rw[xG,qFl];rfl
 refine⟨⟨⟨h.s,he,qGq h.lo g1,g2,λp hp=>?_,?_,h.cn,h.op,h.wa,h.on,h.wn,h.tx,h.ct⟩,g1,?_⟩,?_,hlen⟩
 ·have hp:p∈(bQ x).2.2.2.1++[(l,(false,()))]:=hp;rcases qAp.1 hp with hp|hp
  ·exact h.pats p hp
  ·obtain rfl:=qCp.1 hp;exact hl
 ·show((bQ x).2.2.2.1++[(l,(false,()))]).length<=999;omega
 ·show(bQ x).2.2.2.1.length<=((bQ x).2.2.2.1++[(l,(false,()))]).length;rw[xG];omega
 ·show qEq .i64 (((((bQ x).2.2.2.1++[(l,(false,()))]).length:Nat):Int)-1)=_;rw[hlen,bD (by omega) (by omega)];omega
theorem yMu(h:Rd S c k x)(hp:1<=rpn x):Ans (iD n x) λy=>Nx S c k x y/\rpn y=rpn x:=by
 have hpn:rpn x<=999:=h.pn;unfold iD;simp only;have hw:qEq .i64 (((rpn x:Nat):Int)-1)=((rpn x-1:Nat):Int):=by rw[bD (by omega) (by omega)];omega
 refine Ans.chk (sI (bI (n:=rpn x) (by show 0<=qEq .i64 (((rpn x:Nat):Int)-1);omega) (by show qEq .i64 (((rpn x:Nat):Int)-1)<_;omega)) (decide_eq_true (by omega))) ?_;refine Ans.chk (decide_eq_true (by show 0+(qEq .i64 (((rpn x:Nat):Int)-1)).toNat<rpn x;omega)) (Ans.some ?_);refine⟨⟨⟨h.s,h.e,h.lo,h.hi,λp hp=>?_,?_,h.cn,h.op,h.wa,h.on,h.wn,h.tx,h.ct⟩,qEe _,?_⟩,qAx ..⟩
 ·rcases qGs hp with hp|rfl
  ·exact h.pats p hp
  ·simp only[Nat.zero_add];have hi:(qEq .i64 (((rpn x:Nat):Int)-1)).toNat<(bQ x).2.2.2.1.length:=by show _<rpn x;omega
   have:=h.pats ((bQ x).2.2.2.1[(qEq .i64 (((rpn x:Nat):Int)-1)).toNat]'hi) (wU hi);rw[show(List.getD _ _ _:List NdT × Bool × Unit)=(bQ x).2.2.2.1[(qEq .i64 (((rpn x:Nat):Int)-1)).toNat]'hi from by rw[wG];exact(congrArg (λo=>Option.getD o _) (wW hi))];exact this
 ·exact zG (qEz (qAx ..)) h.pn
 ·exact qEz (qAx ..).symm
abbrev AdP(S:List UInt8)(c k:Nat)(x:Sc0)(y:Int × Int × Int × Bool × Sc0):Prop:=Nx S c k x y.2.2.2.2
theorem yVe(b q:Bool)(e1 e2 e3:Int)(h:Rd S c k x)(hf:Fu S n)(X:_)(hX:X=(b,q,x.1,x.2.1,x.2.2.1,x.2.2.2.1,x.2.2.2.2.1,x.2.2.2.2.2.1,x.2.2.2.2.2.2.1,x.2.2.2.2.2.2.2.1,x.2.2.2.2.2.2.2.2.1,x.2.2.2.2.2.2.2.2.2.1,x.2.2.2.2.2.2.2.2.2.2.1,x.2.2.2.2.2.2.2.2.2.2.2.1,x.2.2.2.2.2.2.2.2.2.2.2.2.1,x.2.2.2.2.2.2.2.2.2.2.2.2.2.1,x.2.2.2.2.2.2.2.2.2.2.2.2.2.2.1,x.2.2.2.2.2.2.2.2.2.2.2.2.2.2.2.1,x.2.2.2.2.2.2.2.2.2.2.2.2.2.2.2.2.1,x.2.2.2.2.2.2.2.2.2.2.2.2.2.2.2.2.2.1,x.2.2.2.2.2.2.2.2.2.2.2.2.2.2.2.2.2.2.1,x.2.2.2.2.2.2.2.2.2.2.2.2.2.2.2.2.2.2.2.1,x.2.2.2.2.2.2.2.2.2.2.2.2.2.2.2.2.2.2.2.2.1,x.2.2.2.2.2.2.2.2.2.2.2.2.2.2.2.2.2.2.2.2.2.1,x.2.2.2.2.2.2.2.2.2.2.2.2.2.2.2.2.2.2.2.2.2.2.1,x.2.2.2.2.2.2.2.2.2.2.2.2.2.2.2.2.2.2.2.2.2.2.2.1,x.2.2.2.2.2.2.2.2.2.2.2.2.2.2.2.2.2.2.2.2.2.2.2.2.1,x.2.2.2.2.2.2.2.2.2.2.2.2.2.2.2.2.2.2.2.2.2.2.2.2.2.1,e1,e2,e3,())):Ans (jn (jG n) X) (Ok (AdP S c k x)):=by
 subst hX;show Ans (jG n _) _;unfold jG;simp only;refine Ans.br (λ_=>?_) (λ_=>Ans.br (λ_=>?_) (λ_=>okl (Nx.refl h)))
 ·refine ok2 (Ih (x:=x) 121 (by decide) h hf) ?_ (λz=>⟨_,rfl⟩);rintro⟨v,w⟩ ⟨a,hw,g1,g2⟩;simp only at hw g1 g2;subst hw;exact okl (Rd.at h (qGr g1) g2)
 ·refine Ans.ob _ (Rs (x:=x) [126] h hf) ?_;rintro⟨q,w⟩ ⟨a,hw,g1,g2⟩;simp only at hw g1 g2;subst hw;have hn:=Rd.at h g1 g2;refine Ans.br (λ_=>?_) (λ_=>okl hn);refine ok2 (Ih (x:=qF x a) 121 (by decide) hn.1 hf) ?_ (λz=>⟨_,rfl⟩);rintro⟨v,w⟩ ⟨a2,hw,g1,g2⟩;simp only at hw g1 g2;subst hw;exact okl (hn.trans (Rd.at hn.1 (qGr g1) g2))
theorem zXl(b:Bool)(h:Rd S c k x)(hf:Fu S n):Ans (kT n (b,x)) (Ok (AdP S c k x)):=by
 unfold kT;refine Ans.ob _ (Xq _ h) ?_;rintro⟨q,w⟩ ⟨hw,_⟩;simp only at hw;have hw:=hw.symm;subst hw;have rx:∀ (d:Int) (w:Sc0),Nx S c k x w->Ans (ob2 (fZ n (d,w)) (λy36 =>
  ob (dK n ([73],y36.2)) λy37 =>
  br y37.1 (
   ob (iD n (y37.2)) λy38 =>
   some (.inl (4,y36.1,0,true,y38))) (
   some (.inl (4,y36.1,0,true,y37.2)))) (λy36 =>
  some (.inr (y36)):Int × Sc0->Option (Sum (Int × Int × Int × Bool × Sc0) (Int × Sc0)))) (Ok (AdP S c k x)):=by
  intro d w hn;refine ok2 (zXk d hn.1 hf) ?_ (λz=>⟨_,rfl⟩);rintro⟨v,w2⟩ ⟨hn2,_,hp⟩;simp only at hn2 hp;refine Ans.ob _ (Rs [73] hn2.1 hf) ?_;rintro⟨q2,w3⟩ ⟨a,hw,g1,g2⟩;simp only at hw g1 g2;subst hw;have hn3:=Rd.at hn2.1 g1 g2;refine Ans.br (λ_=>?_) (λ_=>okl ((hn.trans hn2).trans hn3));refine Ans.ob _ (yMu hn3.1 (by show 1<=rpn w2;omega)) ?_;rintro w4 ⟨hn4,_⟩;exact okl (((hn.trans hn2).trans hn3).trans hn4)
 refine Ans.br (λ_=>?_) (λ_=>?_)
 ·refine ok2 (Ih 121 (by decide) h hf) ?_ (λz=>⟨_,rfl⟩);rintro⟨v,w⟩ ⟨a,hw,g1,g2⟩;simp only at hw g1 g2;subst hw;have hn:=Rd.at h (qGr g1) g2;refine Ans.ob _ (Rs [126] hn.1 hf) ?_;rintro⟨q,w⟩ ⟨a2,hw,g3,g4⟩;simp only at hw g3 g4;subst hw;have hn2:=hn.trans (Rd.at hn.1 g3 g4);refine Ans.br (λ_=>?_) (λ_=>okl hn2);refine ok2 (Ih 121 (by decide) hn2.1 hf) ?_ (λz=>⟨_,rfl⟩);rintro⟨v,w⟩ ⟨a3,hw,g5,g6⟩;simp only at hw g5 g6;subst hw;exact okl (hn2.trans (Rd.at hn2.1 (qGr g5) g6))
 ·refine Ans.ob _ (Rs [36] h hf) ?_;rintro⟨q,w⟩ ⟨a,hw,g1,g2⟩;simp only at hw g1 g2;subst hw;have hn:=Rd.at h g1 g2;refine Ans.br (λ_=>okl hn) (λ_=>?_);refine Ans.ob _ (Xq [47,92] hn.1) ?_;rintro⟨q,w⟩ ⟨hw,_⟩;simp only at hw;subst hw;refine Ans.br (λ_=>?_) (λ_=>Ans.br (λ_=>?_) (λ_=>?_))
  ·refine ok2 (any_ok hn.1 hf) ?_ (λz=>⟨_,rfl⟩);rintro⟨d,w⟩ ⟨hw,g3⟩;simp only at hw g3;subst hw;have hn2:=hn.trans (Rd.at hn.1 (by omega) g3);refine Ans.br (λ_=>?_) (λ_=>rx _ _ hn2);refine ok2 (any_ok hn2.1 hf) ?_ (λz=>⟨_,rfl⟩);rintro⟨d,w⟩ ⟨hw,g4⟩;simp only at hw g4;subst hw;exact rx _ _ (hn2.trans (Rd.at hn2.1 (by omega) g4))
  ·refine Ans.ob _ (Rs [43] hn.1 hf) ?_;rintro⟨q,w⟩ ⟨a2,hw,g3,g4⟩;simp only at hw g3 g4;subst hw;have hn2:=Rd.at hn.1 g3 g4;exact(yVe _ _ _ _ _ hn2.1 hf _ rfl).mono λs hs=>⟨λy hy=>(hn.trans hn2).trans (hs.1 y hy),hs.2⟩
  ·exact(yVe _ _ _ _ _ hn.1 hf _ rfl).mono λs hs=>⟨λy hy=>hn.trans (hs.1 y hy),hs.2⟩
theorem yIy(h:Rd S c k x)(hf:Fu S n):Ans (mG n x) (Ok λy=>Nx S c k x y.2):=by
 unfold mG;refine ok2 (zXl false h hf) ?_ (λz=>⟨_,rfl⟩);intro y hy;refine Ans.br (λ_=>okl hy) (λ_=>?_);refine Ans.ob _ (yI (x:=(y.2.2.2.2.1,y.2.2.2.2.2.1,y.2.2.2.2.2.2.1,y.2.2.2.2.2.2.2.1,y.2.2.2.2.2.2.2.2.1,y.1,y.2.1,y.2.2.1,y.2.2.2.2.2.2.2.2.2.2.2.2)) hy.1 hf) ?_;rintro _ ⟨a,rfl,g1,g2⟩;have hn1:Nx S c k x (qF (y.2.2.2.2.1,y.2.2.2.2.2.1,y.2.2.2.2.2.2.1,y.2.2.2.2.2.2.2.1,y.2.2.2.2.2.2.2.2.1,y.1,y.2.1,y.2.2.1,y.2.2.2.2.2.2.2.2.2.2.2.2) a):=Nx.trans (y:=y.2.2.2.2) hy (Rd.at (x:=(y.2.2.2.2.1,y.2.2.2.2.2.1,y.2.2.2.2.2.2.1,y.2.2.2.2.2.2.2.1,y.2.2.2.2.2.2.2.2.1,y.1,y.2.1,y.2.2.1,y.2.2.2.2.2.2.2.2.2.2.2.2)) hy.1 g1 g2);refine Ans.ob _ (Rs [44] hn1.1 hf) ?_;rintro⟨q,w⟩ ⟨a2,hw,g3,g4⟩;simp only at hw;subst hw;have hn2:=hn1.trans (Rd.at hn1.1 g3 g4);refine Ans.br (λ_=>?_) (λ_=>?_)
 ·refine Ans.ob _ (yI hn2.1 hf) ?_;rintro _ ⟨a3,rfl,g5,g6⟩;have hn3:=hn2.trans (Rd.at hn2.1 g5 g6);refine ok2 (zXl true hn3.1 hf) ?_ (λz=>⟨_,rfl⟩);intro y2 hy2;refine Ans.br (λ_=>iY (okr (by decide))) (λ_=>Ans.ob _ (yUs _) λq _=>Ans.br (λ_=>iY (okr (by decide))) (λ_=>okl (hn3.trans hy2)))
 ·exact Ans.ob _ (yUs _) λq _=>Ans.br (λ_=>iY (okr (by decide))) (λ_=>okl hn2)
def rcn (x:Sc0):Nat:=(bQ x).2.2.2.2.1.length
theorem yIz(h:Rd S c 1 x)(hc:c<=5000):Ans (cO n x) λy=>Nx S (c+1) 0 x y:=by
 have hcn:rcn x<=c:=h.cn;unfold cO;simp only;refine Ans.chk (Uo (m:=rcn x+1) (by omega)) (Ans.some ?_);have hlen:∀ q,((bQ x).2.2.2.2.1++[q]).length=rcn x+1:=λq=>by rw[xG,qFl];rfl
 refine⟨⟨h.s,h.e,h.lo,h.hi,h.pats,h.pn,?_,λp hp=>?_,λp hp=>?_,h.on,h.wn,h.tx,λp hp=>?_⟩,qEe _,aS _⟩
 ·exact zG (qEz (hlen _)) (by omega)
 ·have:=h.op p hp;refine⟨this.1,Int.lt_of_lt_of_le this.2 ?_⟩;exact qGq (show((rcn x:Nat):Int)+(1:Nat)<=((rcn x+1:Nat):Int)+(0:Nat)by omega) (Int.le_of_eq (congrArg (λm:Nat=>(m:Int)+(0:Nat)) (hlen _).symm))
 ·have:=h.wa p hp;refine⟨this.1,Int.lt_of_lt_of_le this.2 ?_⟩;exact qGq (show((rcn x:Nat):Int)+(1:Nat)<=((rcn x+1:Nat):Int)+(0:Nat)by omega) (Int.le_of_eq (congrArg (λm:Nat=>(m:Int)+(0:Nat)) (hlen _).symm))
 ·rcases qAp.1 hp with hp|hp
  ·exact h.ct p hp
  ·obtain rfl:=qCp.1 hp;exact h.tx
end Go.Dec
namespace Go.Dec
variable {n:Nat}{S:List UInt8}{c k:Nat}{x y z:Sc0}
def rd3 (X:Sc3):Sc0:=(X.1,X.2.1,X.2.2.1,X.2.2.2.1,X.2.2.2.2.1,X.2.2.2.2.2.1,X.2.2.2.2.2.2.1,X.2.2.2.2.2.2.2.1,X.2.2.2.2.2.2.2.2.1,X.2.2.2.2.2.2.2.2.2.1,X.2.2.2.2.2.2.2.2.2.2.1,X.2.2.2.2.2.2.2.2.2.2.2.1,X.2.2.2.2.2.2.2.2.2.2.2.2.1,X.2.2.2.2.2.2.2.2.2.2.2.2.2.1,X.2.2.2.2.2.2.2.2.2.2.2.2.2.2.1,X.2.2.2.2.2.2.2.2.2.2.2.2.2.2.2.1,X.2.2.2.2.2.2.2.2.2.2.2.2.2.2.2.2.1,X.2.2.2.2.2.2.2.2.2.2.2.2.2.2.2.2.2.1,X.2.2.2.2.2.2.2.2.2.2.2.2.2.2.2.2.2.2.1,X.2.2.2.2.2.2.2.2.2.2.2.2.2.2.2.2.2.2.2.1,X.2.2.2.2.2.2.2.2.2.2.2.2.2.2.2.2.2.2.2.2.1,X.2.2.2.2.2.2.2.2.2.2.2.2.2.2.2.2.2.2.2.2.2.1,X.2.2.2.2.2.2.2.2.2.2.2.2.2.2.2.2.2.2.2.2.2.2.1,X.2.2.2.2.2.2.2.2.2.2.2.2.2.2.2.2.2.2.2.2.2.2.2.1,X.2.2.2.2.2.2.2.2.2.2.2.2.2.2.2.2.2.2.2.2.2.2.2.2.1,X.2.2.2.2.2.2.2.2.2.2.2.2.2.2.2.2.2.2.2.2.2.2.2.2.2.1,())
def mk3 (w:Sc0) (m:List (List UInt8×Int)):Sc3:=(w.1,w.2.1,w.2.2.1,w.2.2.2.1,w.2.2.2.2.1,w.2.2.2.2.2.1,w.2.2.2.2.2.2.1,w.2.2.2.2.2.2.2.1,w.2.2.2.2.2.2.2.2.1,w.2.2.2.2.2.2.2.2.2.1,w.2.2.2.2.2.2.2.2.2.2.1,w.2.2.2.2.2.2.2.2.2.2.2.1,w.2.2.2.2.2.2.2.2.2.2.2.2.1,w.2.2.2.2.2.2.2.2.2.2.2.2.2.1,w.2.2.2.2.2.2.2.2.2.2.2.2.2.2.1,w.2.2.2.2.2.2.2.2.2.2.2.2.2.2.2.1,w.2.2.2.2.2.2.2.2.2.2.2.2.2.2.2.2.1,w.2.2.2.2.2.2.2.2.2.2.2.2.2.2.2.2.2.1,w.2.2.2.2.2.2.2.2.2.2.2.2.2.2.2.2.2.2.1,w.2.2.2.2.2.2.2.2.2.2.2.2.2.2.2.2.2.2.2.1,w.2.2.2.2.2.2.2.2.2.2.2.2.2.2.2.2.2.2.2.2.1,w.2.2.2.2.2.2.2.2.2.2.2.2.2.2.2.2.2.2.2.2.2.1,w.2.2.2.2.2.2.2.2.2.2.2.2.2.2.2.2.2.2.2.2.2.2.1,w.2.2.2.2.2.2.2.2.2.2.2.2.2.2.2.2.2.2.2.2.2.2.2.1,w.2.2.2.2.2.2.2.2.2.2.2.2.2.2.2.2.2.2.2.2.2.2.2.2.1,w.2.2.2.2.2.2.2.2.2.2.2.2.2.2.2.2.2.2.2.2.2.2.2.2.2.1,m,())
def had (X:Sc3):List (List UInt8×Int):=X.2.2.2.2.2.2.2.2.2.2.2.2.2.2.2.2.2.2.2.2.2.2.2.2.2.2.1
def Ones (m:List (List UInt8×Int)):Prop := ∀ p ∈ m,p.2 = 1
theorem yZv{m:List (List UInt8 × Int)}(h:Ones m)(q:List UInt8):jP .str 0 m q=0\/jP .str 0 m q=1:=by
 unfold jP;have:∀ v,fV .str m q=some v->v=1:=by
  induction m with
  |nil=>intro v hv;cases hv
  |cons e r ih =>
   intro v hv;unfold fV at hv;split at hv
   ·obtain rfl:=qBc hv;exact h e (.head _)
   ·exact ih (λp hp=>h p (.tail _ hp)) v hv
 cases hq:fV .str m q with
 |none=>exact .inl rfl
 |some v=>exact .inr (this v hq)
theorem yZw(m:List (List UInt8 × Int))(q:List UInt8)(v:Int):jP .str 0 (uV .str m q v) q=v:=by
 have hs:Ty.beq .str q q=true:=yHy (t:=.str) rfl q;have key:∀ m:List (List UInt8 × Int),fV .str (uV .str m q v) q=some v:=by
  intro m;unfold uV;have:∀ m:List (List UInt8 × Int),(∀ u,fV .str m q=some u->fV .str (m.set (mIdx .str m q) (q,v)) q=some v)/\(fV .str m q=none->fV .str (m++[(q,v)]) q=some v):=by
   intro m;induction m with
   |nil=>exact⟨λu hu=>(by cases hu),λ_=>by simp only[qDc,fV];split<;>simp_all⟩
   |cons e r ih =>
    cases hb:Ty.beq .str q e.1 with
    |true=>exact⟨λu _=>by simp only[mIdx,hb,qGf,fV];split<;>simp_all,λhn=>by simp[fV,hb]at hn⟩
    |false =>
     refine⟨λu hu=>?_,λhn=>?_⟩
     ·simp only[fV,hb]at hu;simp only[mIdx,hb,qGg,fV];exact ih.1 u hu
     ·simp only[fV,hb]at hn;simp only[qCt,fV,hb];exact ih.2 hn
  cases hq:fV .str m q with
  |none=>exact(this m).2 hq
  |some u=>exact(this m).1 u hq
 unfold jP;rw[key m]
theorem yZx{m:List (List UInt8 × Int)}(h:Ones m)(q:List UInt8):Ones (uV .str m q 1):=by
 unfold uV;cases fV .str m q with
 |none =>
  intro p hp;rcases qAp.1 hp with hp|hp
  ·exact h p hp
  ·obtain rfl:=qCp.1 hp;rfl
 |some u =>
  intro p hp;rcases qGs hp with hp|rfl
  ·exact h p hp
  ·rfl
abbrev FlP(S:List UInt8)(c k:Nat)(w:Sc0):Sum (Bool × Sc0) (Int × Sc0)->Prop:=Ok λy=>Nx S c k w y.2
def Rest (S:List UInt8) (c k:Nat) (x w:Sc0) (r:Sc3->Option (Sum (Bool×Sc0) (Int×Sc0))):Prop := ∀ Y,Nx S c k w (rd3 Y)->Ones (had Y)->Ans (r Y) (FlP S c k x)
theorem xIf(q:List UInt8){w:Sc0}{m:List (List UInt8 × Int)}{r:Sc3->Option (Sum (Bool × Sc0) (Int × Sc0))}(hx:Nx S c k x w)(h:Rd S c k w)(hp:1<=rpn w)(hm:Ones m)(hf:Fu S n)(hr:Rest S c k x w r):Ans (jn (oO n r) (q,mk3 w m)) (FlP S c k x):=by
 show Ans (oO n r _) _;unfold oO;have hn:Nx S c k w w:=Nx.refl h;refine Ans.br (λ_=>hr _ hn hm) (λ_=>Ans.br (λ_=>hr _ hn hm) (λ_=>Ans.br (λ_=>?_) (λ_=>Ans.br (λ_=>?_) (λ_=>hr _ hn hm))))
 ·refine Ans.ob _ (yMu (x:=w) h hp) ?_;rintro w2 ⟨g,_⟩;exact hr _ g hm
 ·refine Ans.ob _ (zTo (x:=w) [] h hf) ?_;rintro⟨t,w2⟩ ⟨a,hw,g1,g2,g3⟩;simp only at hw g3;subst hw;have hn2:=(Rd.at h g1 g2).1;have h4:=hf.1;have h8:RdK S c k (w.1,w.2.1,a,w.2.2.2.2.2.2.2.2.2.2.2.2.2.2.2.2.2.2.2.2.2.1,w.2.2.2.2.2.2.2.2.2.2.2.2.2.2.2.2.2.2.2.2.2.2.1,w.2.2.2.2.2.2.2.2.2.2.2.2.2.2.2.2.2.2.2.2.2.2.2.1,w.2.2.2.2.2.2.2.2.2.2.2.2.2.2.2.2.2.2.2.2.2.2.2.2.1,t,w.2.2.2.2.2.2.2.2.2.2.2.2.2.2.2.2.2.2.1):=⟨hn2.s,hn2.e,hn2.lo,hn2.hi,hn2.pats,hn2.pn,hn2.cn,hn2.op,hn2.wa,hn2.on,hn2.wn,⟨by simp only;omega,hn2.tx.2⟩,hn2.ct⟩;exact Ans.br (λ_=>iY (okr (by decide))) (λ_=>okl ⟨h8,qGq hx.2.1 g1,hx.2.2⟩)
theorem yJa(q:List UInt8){w:Sc0}{m:List (List UInt8 × Int)}{r:Sc3->Option (Sum (Bool × Sc0) (Int × Sc0))}(hx:Nx S c k x w)(h:Rd S c k w)(hp:1<=rpn w)(hm:Ones m)(hf:Fu S n)(hr:jP .str 0 m q=0->Rest S c k x w r):Ans (jn (fM n r) (q,mk3 w m)) (FlP S c k x):=by
 show Ans (fM n r _) _;unfold fM;have hg:jP .str 0 (uV .str (had (mk3 w m)) q (qEq .i64 (jP .str 0 (had (mk3 w m)) q+1))) q=qEq .i64 (jP .str 0 m q+1):=yZw _ _ _;refine Ans.br (λ_=>iY (okr (by decide))) (λhle=>?_);have hle:¬ (jP .str 0 (uV .str (had (mk3 w m)) q (qEq .i64 (jP .str 0 (had (mk3 w m)) q+1))) q>1):=Am hle;rw[hg]at hle;have h0:jP .str 0 m q=0:=by
  rcases yZv hm q with e|e
  ·exact e
  ·rw[e,bD (by decide) (by decide)]at hle;omega
 refine Ans.br (λ_=>iY (okr (by decide))) (λ_=>?_);have hset:uV .str m q (qEq .i64 (jP .str 0 m q+1))=uV .str m q 1:=by rw[h0];rfl
 have:=xIf (n:=n) q (m:=uV .str m q (qEq .i64 (jP .str 0 m q+1))) hx h hp (by rw[hset];exact yZx hm q) hf (hr h0);exact this
theorem flB{X:Sc3}{r:Sc3->Option (Sum (Bool × Sc0) (Int × Sc0))}(hX:Nx S c k x (rd3 X))(hp3:1<=rpn (rd3 X))(hm:Ones (had X))(hf:Fu S n)(hlt:X.2.2.1<S.length)(go:∀ w,Nx S c k (rd3 X) w->(rd3 X).2.2.1<w.2.2.1->Rest S c k x w r):Ans (chk ((decide (0<=qEq .i64 (X.2.2.1+1))&&decide (qEq .i64 (X.2.2.1+1)<=(X.1.length:Int))&&(decide (0<=X.2.2.1)&&decide (X.2.2.1<=qEq .i64 (X.2.2.1+1))))) (jn (fM n r) ((X.1.take (qEq .i64 (X.2.2.1+1)).toNat).drop X.2.2.1.toNat,(X.1,X.2.1,(qEq .i64 (X.2.2.1+1)),X.2.2.2.1,X.2.2.2.2.1,X.2.2.2.2.2.1,X.2.2.2.2.2.2.1,X.2.2.2.2.2.2.2.1,X.2.2.2.2.2.2.2.2.1,X.2.2.2.2.2.2.2.2.2.1,X.2.2.2.2.2.2.2.2.2.2.1,X.2.2.2.2.2.2.2.2.2.2.2.1,X.2.2.2.2.2.2.2.2.2.2.2.2.1,X.2.2.2.2.2.2.2.2.2.2.2.2.2.1,X.2.2.2.2.2.2.2.2.2.2.2.2.2.2.1,X.2.2.2.2.2.2.2.2.2.2.2.2.2.2.2.1,X.2.2.2.2.2.2.2.2.2.2.2.2.2.2.2.2.1,X.2.2.2.2.2.2.2.2.2.2.2.2.2.2.2.2.2.1,X.2.2.2.2.2.2.2.2.2.2.2.2.2.2.2.2.2.2.1,X.2.2.2.2.2.2.2.2.2.2.2.2.2.2.2.2.2.2.2.1,X.2.2.2.2.2.2.2.2.2.2.2.2.2.2.2.2.2.2.2.2.1,X.2.2.2.2.2.2.2.2.2.2.2.2.2.2.2.2.2.2.2.2.2.1,X.2.2.2.2.2.2.2.2.2.2.2.2.2.2.2.2.2.2.2.2.2.2.1,X.2.2.2.2.2.2.2.2.2.2.2.2.2.2.2.2.2.2.2.2.2.2.2.1,X.2.2.2.2.2.2.2.2.2.2.2.2.2.2.2.2.2.2.2.2.2.2.2.2.1,X.2.2.2.2.2.2.2.2.2.2.2.2.2.2.2.2.2.2.2.2.2.2.2.2.2.1,had X,())))) (FlP S c k x):=by
 have hlo:0<=X.2.2.1:=hX.1.lo;have hs:X.1=S:=hX.1.s;have h4:=hf.1;rw[bD (x:=X.2.2.1+1) (by omega) (by omega)];have hn:=Rd.at (x:=rd3 X) (a:=X.2.2.1+1) hX.1 (by show X.2.2.1<=_;omega) (by omega);exact Ans.chk (by rw[hs];exact yRa hlo (by omega) (by omega)) (yJa (w:=qF (rd3 X) (X.2.2.1+1)) (m:=had X) _ (hX.trans hn) hn.1 hp3 hm hf (λ_=>go _ hn (by show X.2.2.1<X.2.2.1+1;omega)))
theorem yZy(h:Rd S c k x)(hp:1<=rpn x)(hf:Fu S n):Ans (iN n x) (FlP S c k x):=by
 unfold iN;have hhi:x.2.2.1<=S.length:=h.hi;obtain⟨f1,f2,f3⟩:=hf;refine Ans.loop (λX=>Nx S c k x (rd3 X)/\Ones (had X)) (λX=>((S.length:Int)-X.2.2.1).toNat*2+(if jP .str 0 (had X) [110,117,109,98,101,114]=0 then 1 else 0)) ?_ n _ ⟨Nx.refl h,λp hp=>by cases hp⟩ (by
  have:0<=x.2.2.1:=h.lo;simp only;split<;>omega)
 rintro r X ⟨hX,hm⟩ hr;have hf:Fu S n:=⟨f1,f2,f3⟩;have hp3:1<=rpn (rd3 X):=zG hp hX.2.2;unfold Eh;have go:∀ {w:Sc0},Nx S c k (rd3 X) w->(rd3 X).2.2.1<w.2.2.1->Rest S c k x w r:=by
  intro w hw hlt Y hY hm2;refine hr Y ⟨(hX.trans hw).trans hY,hm2⟩ ?_;have h1:w.2.2.1<=Y.2.2.1:=hY.2.1;have h2:X.2.2.1<w.2.2.1:=hlt;have h3:Y.2.2.1<=S.length:=hY.1.hi;split<;>split<;>omega
 refine Ans.ob _ (Xq (x:=rd3 X) _ hX.1) ?_;rintro⟨q,w⟩ ⟨hw,g⟩;simp only at hw g;subst hw;refine Ans.br (λ_=>Ans.br (λh0=>?_) (λh0=>?_)) (λ_=>?_)
 ·refine ok2 (Ih (x:=rd3 X) 124 (by decide) hX.1 hf) ?_ (λz=>⟨_,rfl⟩);rintro⟨v,w⟩ ⟨a,hw,g1,g2⟩;simp only at hw g1 g2;subst hw;have hn:=Rd.at (x:=rd3 X) hX.1 (qGr g1) g2;have h7:RdK S c k (X.1,X.2.1,a,X.2.2.2.2.2.2.2.2.2.2.2.2.2.2.2.2.2.2.2.2.2.1,X.2.2.2.2.2.2.2.2.2.2.2.2.2.2.2.2.2.2.2.2.2.2.1,X.2.2.2.2.2.2.2.2.2.2.2.2.2.2.2.2.2.2.2.2.2.2.2.1,X.2.2.2.2.2.2.2.2.2.2.2.2.2.2.2.2.2.2.2.2.2.2.2.2.1,X.2.2.2.2.2.2.2.2.2.2.2.2.2.1,X.2.2.2.2.2.2.2.2.2.2.2.2.2.2.2.2.2.2.1)/\X.2.2.1<=a/\X.2.2.2.2.2.2.2.2.2.2.2.2.2.2.2.2.2.2.2.2.2.1.length<=X.2.2.2.2.2.2.2.2.2.2.2.2.2.2.2.2.2.2.2.2.2.1.length:=hn;have key:∀ w2:Sc0,Nx S c k (rd3 X) w2->(rd3 X).2.2.1<w2.2.2.1->1<=rpn w2->Ans (jn (fM n r) ([110,117,109,98,101,114],mk3 w2 (had X))) (FlP S c k x):=λw2 k1 k2 k3=>yJa _ (hX.trans k1) k1.1 k3 hm hf (λ_=>go k1 k2)
  exact key (X.1,X.2.1,a,X.2.2.2.1,X.2.2.2.2.1,X.2.2.2.2.2.1,X.2.2.2.2.2.2.1,X.2.2.2.2.2.2.2.1,X.2.2.2.2.2.2.2.2.1,X.2.2.2.2.2.2.2.2.2.1,X.2.2.2.2.2.2.2.2.2.2.1,X.2.2.2.2.2.2.2.2.2.2.2.1,X.2.2.2.2.2.2.2.2.2.2.2.2.1,X.2.2.2.2.2.2.2.2.2.2.2.2.2.1,X.2.2.2.2.2.2.2.2.2.2.2.2.2.2.1,v,(rd3 X).2.2.2.2.2.2.2.2.2.2.2.2.2.2.2.2) h7 g1 hp3
 ·have hne:jP .str 0 (had X) [110,117,109,98,101,114]≠0:=λe=>by
   have:(jP .str 0 (had X) [110,117,109,98,101,114]==(0:Int))=true:=beq_iff_eq.2 e;exact absurd this (by rw[show(jP .str 0 (had X) [110,117,109,98,101,114]==(0:Int))=false from h0];exact Bool.false_ne_true)
  exact yJa (w:=rd3 X) (m:=had X) [110,117,109,98,101,114] hX hX.1 hp3 hm hf (λe=>absurd e hne)
 ·refine Ans.ob _ (Xq (x:=rd3 X) _ hX.1) ?_;rintro⟨q,w⟩ ⟨hw,g⟩;simp only at hw g;subst hw;refine Ans.br (λhq=>?_) (λ_=>okl hX);exact flB hX hp3 hm hf (g hq).1 (λw=>go (w:=w))
end Go.Dec
namespace Go.Dec
variable {n:Nat}{S:List UInt8}{c k:Nat}{x y z:Sc0}
theorem Rd.up(h:Rd S c 0 x):Rd S (c+1) 0 x:=⟨h.s,h.e,h.lo,h.hi,h.pats,h.pn,Nat.le_succ_of_le h.cn,h.op,h.wa,zG h.on (by omega),zG h.wn (by omega),h.tx,h.ct⟩
theorem Nx.up(h:Nx S c 0 x y):Nx S (c+1) 0 x y:=⟨Rd.up h.1,h.2.1,h.2.2⟩
theorem Nx.cat{c2 k2:Nat}(h:Nx S c k x y)(g:Nx S c2 k2 y z):Nx S c2 k2 x z:=⟨g.1,qGq h.2.1 g.2.1,zG h.2.2 g.2.2⟩
theorem zTp(h:Rd S c k x)(hf:Fu S n):Ans (eO n x) (Ok λy=>Nx S c k x y):=by
 unfold eO;refine Ans.ob _ (yI h hf) ?_;rintro _ ⟨a,rfl,g1,g2⟩;have hn:=Rd.at h g1 g2;refine Ans.br (λ_=>?_) (λ_=>okl hn);refine Ans.ob _ (Xq _ hn.1) ?_;rintro⟨q,w⟩ ⟨hw,_⟩;simp only at hw;subst hw;exact Ans.br (λ_=>iY (okr (by decide))) (λ_=>okl hn)
theorem oM(h:Rd S c 1 x)(hc:c<=5000)(hf:Fu S n):Ans (bC n x) (Ok λy=>Nx S (c+1) 0 x y):=by
 unfold bC;refine Ans.ob _ (yIz h hc) ?_;intro y hy;exact ok2 (zTp hy.1 hf) (λz hz=>okl (hy.cat hz)) (λz=>⟨_,rfl⟩)
theorem yVf(h:Rd S c 0 x)(hc:c<=5000):Ans (nC n x) λy=>Nx S (c+1) 0 x y:=by
 have hon:(bQ x).2.2.2.2.2.1.length<=c+0:=h.on;unfold nC;simp only;refine Ans.chk (Uo (m:=(bQ x).2.2.2.2.2.1.length+1) (by omega)) ?_;have h7:RdK S c 1 (x.1,x.2.1,x.2.2.1,x.2.2.2.2.2.2.2.2.2.2.2.2.2.2.2.2.2.2.2.2.2.1,x.2.2.2.2.2.2.2.2.2.2.2.2.2.2.2.2.2.2.2.2.2.2.1,(x.2.2.2.2.2.2.2.2.2.2.2.2.2.2.2.2.2.2.2.2.2.2.2.1++[(((x.2.2.2.2.2.2.2.2.2.2.2.2.2.2.2.2.2.2.2.2.2.2.1.length:Nat):Int),(x.2.2.2.1,([],())))]),x.2.2.2.2.2.2.2.2.2.2.2.2.2.2.2.2.2.2.2.2.2.2.2.2.1,x.2.2.2.2.2.2.2.2.2.2.2.2.2.1,x.2.2.2.2.2.2.2.2.2.2.2.2.2.2.2.2.2.2.1):=by
  refine⟨h.s,h.e,h.lo,h.hi,h.pats,h.pn,h.cn,λp hp=>?_,λp hp=>?_,?_,zG h.wn (by omega),h.tx,h.ct⟩
  ·rcases qAp.1 hp with hp|hp
   ·have:=h.op p hp;exact⟨this.1,by have:=this.2;simp only[bQ]at this ⊢;omega⟩
   ·obtain rfl:=qCp.1 hp;exact⟨by simp only;omega,by simp only;omega⟩
  ·have:=h.wa p hp;exact⟨this.1,by have:=this.2;simp only[bQ]at this ⊢;omega⟩
  ·simp only[xG,qFl];simp only[bQ]at hon;omega
 refine Ans.ob (λy=>RdK S (c+1) 0 (bQ y)/\x.2.2.1<=(bQ y).2.2.1/\x.2.2.2.2.2.2.2.2.2.2.2.2.2.2.2.2.2.2.2.2.2.1.length<=(bQ y).2.2.2.1.length) (yIz (c:=c) h7 hc) ?_;intro y hy;exact Ans.some hy
end Go.Dec
namespace Go.Dec
variable {n:Nat}{S:List UInt8}{c k:Nat}{x y z T:Sc0}{q:Rq}
def Fx (x:Sc0) (q:Rq):Prop:=(bQ x).2.2.1<=q.2.2.1 ∧ (bQ x).2.2.2.1.length<=q.2.2.2.1.length
theorem yDp(hT:bQ T=q)(h:RdK S c 1 q)(hx:Fx x q)(hc:c<=5000):Ans (cO n T) λy=>Nx S (c+1) 0 x y:=by
 subst hT;exact(yIz (x:=T) h hc).mono λy hy=>⟨hy.1,qGq hx.1 hy.2.1,zG hx.2 hy.2.2⟩
theorem yRo(hT:bQ T=q)(h:RdK S c 1 q)(hx:Fx x q)(hc:c<=5000)(hf:Fu S n):Ans (bC n T) (Ok λy=>Nx S (c+1) 0 x y):=by
 subst hT;exact(oM (x:=T) h hc hf).mono λs hs=>⟨λy e=>⟨(hs.1 y e).1,qGq hx.1 (hs.1 y e).2.1,zG hx.2 (hs.1 y e).2.2⟩,hs.2⟩
theorem xJz(hT:bQ T=q)(h:RdK S c k q)(hx:Fx x q)(hf:Fu S n):Ans (eO n T) (Ok λy=>Nx S c k x y):=by
 subst hT;exact(zTp (x:=T) h hf).mono λs hs=>⟨λy e=>⟨(hs.1 y e).1,qGq hx.1 (hs.1 y e).2.1,zG hx.2 (hs.1 y e).2.2⟩,hs.2⟩
theorem xMi(hT:bQ T=q)(h:RdK S c k q)(hx:Fx x q)(hp:1<=q.2.2.2.1.length)(hf:Fu S n):Ans (iN n T) (Ok λy=>Nx S c k x y.2):=by
 subst hT;exact(yZy (x:=T) h hp hf).mono λs hs=>⟨λy e=>⟨(hs.1 y e).1,qGq hx.1 (hs.1 y e).2.1,zG hx.2 (hs.1 y e).2.2⟩,hs.2⟩
def kat (q:Rq) (a:Int):Rq:=(q.1,q.2.1,a,q.2.2.2)
theorem yJ(h:RdK S c k q){a:Int}(h0:q.2.2.1<=a)(h1:a<=S.length):RdK S c k (kat q a):=⟨h.s,h.e,qGq h.lo h0,h1,h.pats,h.pn,h.cn,h.op,h.wa,h.on,h.wn,h.tx,h.ct⟩
theorem Gu(h:Fx x q){a:Int}(h0:q.2.2.1<=a):Fx x (kat q a):=⟨qGq h.1 h0,h.2⟩
def ktx (q:Rq) (t:List UInt8):Rq:=(q.1,q.2.1,q.2.2.1,q.2.2.2.1,q.2.2.2.2.1,q.2.2.2.2.2.1,q.2.2.2.2.2.2.1,t,q.2.2.2.2.2.2.2.2)
theorem zXm(h:RdK S c k q){t:List UInt8}(ht:t.length<=4001):RdK S c k (ktx q t):=⟨h.s,h.e,h.lo,h.hi,h.pats,h.pn,h.cn,h.op,h.wa,h.on,h.wn,⟨ht,h.tx.2⟩,h.ct⟩
theorem yJb(h:Fx x q){t:List UInt8}:Fx x (ktx q t):=h
def kpa (q:Rq) (l:List Oz):Rq:=(q.1,q.2.1,q.2.2.1,q.2.2.2.1,q.2.2.2.2.1,q.2.2.2.2.2.1,q.2.2.2.2.2.2.1,q.2.2.2.2.2.2.2.1,l)
theorem yVg(h:RdK S c k q){l:List Oz}(hl:l.length<=9000):RdK S c k (kpa q l):=⟨h.s,h.e,h.lo,h.hi,h.pats,h.pn,h.cn,h.op,h.wa,h.on,h.wn,⟨h.tx.1,hl⟩,h.ct⟩
theorem xIg(h:Fx x q){l:List Oz}:Fx x (kpa q l):=h
theorem RdK.sl(h:RdK S c 0 q):RdK S c 1 q:=⟨h.s,h.e,h.lo,h.hi,h.pats,h.pn,h.cn,λp hp=>by have:=h.op p hp;exact⟨this.1,by omega⟩,λp hp=>by have:=h.wa p hp;exact⟨this.1,by omega⟩,zG h.on (by omega),zG h.wn (by omega),h.tx,h.ct⟩
theorem Ru(h:Rd S c k x):Fx x (bQ x):=⟨qEe _,aS _⟩
theorem xBs(t:List UInt8)(h:t.length<=4000):∃ b,strings_ContainsAny n (t,[32,9])=some b:=⟨_,by
 unfold strings_ContainsAny;rw[show(decide (([32,9]:List UInt8)=[32,9])&&qBg t.length 1000000)=true from sI rfl (qFr (by omega))];rfl⟩
theorem xDw(h:Rd S c k x)(hf:Fu S n):Ans (sS n x) (Ok λy=>∃ a,y.2=qF x a/\x.2.2.1<=a/\a<=S.length):=by
 unfold sS;refine Ans.ob _ (zTo _ h hf) ?_;rintro⟨t,w⟩ ⟨a,hw,g1,g2,g3⟩;simp only at hw g1 g2 g3;subst hw;obtain⟨b,hb⟩:=xBs (n:=n) t (zG g3 hf.1);simp only;rw[hb,aK];exact Ans.br (λ_=>iY (okr (by decide))) (λ_=>okl ⟨a,rfl,g1,g2⟩)
theorem yZz(h:Rd S c 0 x)(hf:Fu S n):Ans (qZ n x) (Ok λy=>Nx S (c+1) 0 x y):=by
 unfold qZ;refine ok2 (xDw h hf) ?_ (λz=>⟨_,rfl⟩);rintro⟨t,w⟩ ⟨a,hw,g1,g2⟩;simp only at hw g1 g2;subst hw;refine Ans.br (λ_=>iY (okr (by decide))) (λ_=>Ans.br (λ_=>iY (okr (by decide))) (λ_=>?_));exact ok2 (xJz (q:=kat (bQ x) a) rfl (yJ h g1 g2) (Gu (Ru h) g1) hf) (λy hy=>okl (Nx.up hy)) (λz=>⟨_,rfl⟩)
theorem yMv(h:Rd S c 0 x)(hc:c<=5000)(hf:Fu S n):Ans (oD n x) (Ok λy=>Nx S (c+1) 0 x y):=by
 unfold oD;refine Ans.ob _ (zTo _ h hf) ?_;rintro⟨t,w⟩ ⟨a,hw,g1,g2,g3⟩;simp only at hw g1 g2 g3;subst hw;have h4:=hf.1;refine Ans.br (λ_=>iY (okr (by decide))) (λ_=>?_);exact Ans.ob _ (yDp (q:=ktx (kat (bQ x) a) t) rfl (zXm (yJ (RdK.sl h) g1 g2) (by omega)) (yJb (Gu (Ru h) g1)) hc) (λy hy=>okl hy)
theorem zIr(h:Rd S c 0 x)(hc:c<=5000)(hf:Fu S n):Ans (iU n x) (Ok λy=>Nx S (c+1) 0 x y):=by
 have key:∀ T:Sc0,bQ T=bQ x->Ans (jn (jH n) T) (Ok λy=>Nx S (c+1) 0 x y):=by
  intro T hT;have hR:Rd S c 0 T:=by unfold Rd;rw[hT];exact h
  have hX:Fx x (bQ T):=by rw[hT];exact Ru h
  show Ans (jH n T) _;unfold jH;refine Ans.ob _ (yI hR hf) ?_;rintro _ ⟨a,rfl,g1,g2⟩;have k1:RdK S c 0 (kat (bQ T) a):=yJ hR g1 g2;have f1:=Gu hX g1;refine Ans.ob _ (Xq (x:=qF T a) _ k1) ?_;rintro⟨b,w⟩ ⟨hw,_⟩;simp only at hw;subst hw;refine Ans.br (λ_=>?_) (λ_=>ok2 (yRo (T:=qF T a) rfl (RdK.sl k1) f1 hc hf) (λy hy=>okl hy) (λz=>⟨_,rfl⟩));refine ok2 (Ih (x:=qF T a) 120 (by decide) k1 hf) ?_ (λz=>⟨_,rfl⟩);rintro⟨v,w⟩ ⟨a2,hw,g3,g4⟩;simp only at hw g3 g4;subst hw;have k2:RdK S c 0 (kat (kat (bQ T) a) a2):=yJ k1 (qGr g3) g4;have f2:Fx x (kat (kat (bQ T) a) a2):=Gu f1 (qGr g3);have pl:∀ U:Sc0,bQ U=kat (kat (bQ T) a) a2->Ans (ob2 (bC n U) (λy59=>some (.inl (y59))) (λy59=>some (.inr (y59))):Option (Sum Sc0 (Int × Sc0))) (Ok λy=>Nx S (c+1) 0 x y):=λU hU=>ok2 (yRo hU (RdK.sl k2) f2 hc hf) (λy hy=>okl hy) (λz=>⟨_,rfl⟩)
  exact Ans.br (λ_=>Ans.br (λ_=>iY (okr (by decide))) (λ_=>pl _ rfl)) (λ_=>pl _ rfl)
 unfold iU;exact Ans.br (λ_=>key _ rfl) (λ_=>key _ rfl)
theorem zEe(h:Rd S c 0 x)(hc:c<=5000)(hf:Fu S n):Ans (lD n x) (Ok λy=>Nx S (c+1) 0 x y):=by
 have key:∀ (a:Int),x.2.2.1<=a->a<=S.length->∀ T:Sc0,bQ T=kat (bQ x) a->Ans (jn (lC n) T) (Ok λy=>Nx S (c+1) 0 x y):=by
  intro a g1 g2 T hT;have hR:RdK S c 0 (bQ T):=by rw[hT];exact yJ h g1 g2
  have hX:Fx x (bQ T):=by rw[hT];exact Gu (Ru h) g1
  have hs:T.1=S:=hR.s;show Ans (lC n T) _;unfold lC;refine Ans.br (λ_=>iY (okr (by decide))) (λ_=>?_);show Ans (vZ n T) _;unfold vZ;refine Ans.ob (λy=>T.2.2.1<=y.2.1/\y.2.1<=S.length/\y.1.length<=S.length+1) (by rw[<- hs];have h4:=hf.1;have:=hf.2.1;exact xDk (by rw[hs];omega) (by rw[hs];omega) hR.lo (by rw[hs];exact hR.hi)) ?_;rintro⟨t,a2,e⟩ ⟨g3,g4,g5⟩;simp only at g5;have h4:=hf.1;refine ok2 Rt ?_ (λz=>⟨_,rfl⟩);intro _ _;exact Ans.ob _ (yDp (q:=ktx (kat (bQ T) a2) t) rfl (zXm (RdK.sl (yJ hR g3 g4)) (by omega)) (yJb (Gu hX g3)) hc) (λy hy=>okl hy)
 unfold lD;refine Ans.ob _ (yI h hf) ?_;rintro _ ⟨a,rfl,g1,g2⟩;have hs:x.1=S:=h.s;have hlo:0<=x.2.2.1:=h.lo;have h4:=hf.1;refine Ans.chk (show(decide (0<=a)&&decide (a<=(x.1.length:Int)))=true by rw[hs];exact Ri (by omega) g2) ?_;obtain⟨b,hb,hb2⟩:=zOp (n:=n) (x.1.drop a.toNat) [92,10];refine Ans.ob (λy=>y=b) ⟨b,hb,rfl⟩ ?_;rintro _ rfl;refine Ans.br (λht=>?_) (λ_=>key a g1 g2 _ rfl);have h2:=hb2 ht;rw[hs,yV]at h2;simp only[xI,qBn]at h2;have hw:qEq .i64 (a+2)=a+2:=bD (by omega) (by omega);exact key (qEq .i64 (a+2)) (by rw[hw];omega) (by rw[hw];omega) _ rfl
theorem yJc(h:Rd S c 0 x)(hc:c<=5000)(hf:Fu S n):Ans (mH n x) (Ok λy=>Nx S (c+1) 0 x y):=by
 obtain⟨f1,f2,f3⟩:=hf;have hf:Fu S n:=⟨f1,f2,f3⟩;unfold mH;refine ok2 (any_ok h hf) ?_ (λz=>⟨_,rfl⟩);rintro⟨d,w⟩ ⟨hw,g1⟩;simp only at hw;subst hw;have k1:RdK S c 0 (kat (bQ x) (x.2.2.1+1)):=yJ h (by show x.2.2.1<=_;omega) g1;have e1:Fx x (kat (bQ x) (x.2.2.1+1)):=Gu (Ru h) (by show x.2.2.1<=_;omega);refine ok2 (zIq (x:=qF x (x.2.2.1+1)) d k1 hf) ?_ (λz=>⟨_,rfl⟩);rintro⟨t,w⟩ ⟨a,hw,g2,g3,g4⟩;simp only at hw g2 g3 g4;subst hw;have k2:=yJ k1 g2 g3;have e2:=Gu e1 g2;refine ok2 (zIq (x:=qF (qF x (x.2.2.1+1)) a) d k2 hf) ?_ (λz=>⟨_,rfl⟩);rintro⟨t2,w⟩ ⟨a2,hw,g5,g6,g7⟩;simp only at hw g5 g6 g7;subst hw;have k3:=yJ k2 g5 g6;have e3:=Gu e2 g5;refine Ans.ob _ (yBf (n:=n) (s:=t) (by omega) (by omega)) ?_;rintro⟨u,i1,i2⟩ hu;refine ok2 Rt (λ_ _=>?_) (λz=>⟨_,rfl⟩);refine Ans.ob _ (yBf (n:=n) (s:=t2) (by omega) (by omega)) ?_;rintro⟨u2,i3,i4⟩ hu2;refine ok2 Rt (λ_ _=>?_) (λz=>⟨_,rfl⟩);simp only at hu hu2;refine Ans.ob _ (xDn (n:=n) (a:=u) (b:=u2) (by omega) (by omega) (by omega)) ?_;rintro⟨m,i5⟩ _;refine ok2 Rt (λ_ _=>?_) (λz=>⟨_,rfl⟩);exact ok2 (yRo (q:=ktx (kat (kat (kat (bQ x) (x.2.2.1+1)) a) a2) u) rfl (zXm (RdK.sl k3) (by omega)) (yJb e3) hc hf) (λy hy=>okl hy) (λz=>⟨_,rfl⟩)
end Go.Dec
namespace Go.Dec
variable {n:Nat}{S:List UInt8}{c k:Nat}{x y z T:Sc0}{q:Rq}
theorem Rv{α:Type}{l:List α}{i:Nat}(h:i<l.length)(d:α):l.getD i d∈l:=by
 rw[wG,wW h];exact wU h
theorem xAa(h:Rd S c 0 x)(hc:c<=5000):Ans (qY n x) (Ok λy=>Nx S (c+1) 0 x y):=by
 have hon:x.2.2.2.2.2.2.2.2.2.2.2.2.2.2.2.2.2.2.2.2.2.2.2.1.length<=c+0:=h.on;have hop:∀ p∈x.2.2.2.2.2.2.2.2.2.2.2.2.2.2.2.2.2.2.2.2.2.2.2.1,0<=p.1/\p.1<(x.2.2.2.2.2.2.2.2.2.2.2.2.2.2.2.2.2.2.2.2.2.2.1.length:Int)+(0:Nat):=h.op;have hwa:∀ p∈x.2.2.2.2.2.2.2.2.2.2.2.2.2.2.2.2.2.2.2.2.2.2.2.2.1,0<=p.1/\p.1<(x.2.2.2.2.2.2.2.2.2.2.2.2.2.2.2.2.2.2.2.2.2.2.1.length:Int)+(0:Nat):=h.wa;unfold qY;have hw:qEq .i64 ((x.2.2.2.2.2.2.2.2.2.2.2.2.2.2.2.2.2.2.2.2.2.2.2.1.length:Int)-1)=(x.2.2.2.2.2.2.2.2.2.2.2.2.2.2.2.2.2.2.2.2.2.2.2.1.length:Int)-1:=bD (by omega) (by omega);simp only[hw];refine Ans.br (λ_=>iY (okr (by decide))) (λhneg=>?_);have hneg:=Am hneg;have hi:((x.2.2.2.2.2.2.2.2.2.2.2.2.2.2.2.2.2.2.2.2.2.2.2.1.length:Int)-1).toNat<x.2.2.2.2.2.2.2.2.2.2.2.2.2.2.2.2.2.2.2.2.2.2.2.1.length:=by omega
 have hm:=hop _ (Rv (i:=0+((x.2.2.2.2.2.2.2.2.2.2.2.2.2.2.2.2.2.2.2.2.2.2.2.1.length:Int)-1).toNat) (by omega) (Ty.dflt gG));refine Ans.chk (sI (bI (by omega) (by omega)) (decide_eq_true (by omega))) (Ans.chk (decide_eq_true (by omega)) ?_);generalize (x.2.2.2.2.2.2.2.2.2.2.2.2.2.2.2.2.2.2.2.2.2.2.2.1.getD (0+((x.2.2.2.2.2.2.2.2.2.2.2.2.2.2.2.2.2.2.2.2.2.2.2.1.length:Int)-1).toNat) (Ty.dflt gG)).1=v at hm ⊢;refine Ans.chk (sI (bI hm.1 (by omega)) (decide_eq_true (by omega))) (Ans.chk (decide_eq_true (by omega)) (Ans.chk (Ri (by omega) (by omega)) (Ans.chk (qFr (by omega)) ?_)));have hvn:0+v.toNat<x.2.2.2.2.2.2.2.2.2.2.2.2.2.2.2.2.2.2.2.2.2.2.1.length:=by have h1:=hm.1;have h2:=hm.2;omega
 refine Ans.ob _ (yDp (c:=c) (q:=(x.1,x.2.1,x.2.2.1,x.2.2.2.2.2.2.2.2.2.2.2.2.2.2.2.2.2.2.2.2.2.1,x.2.2.2.2.2.2.2.2.2.2.2.2.2.2.2.2.2.2.2.2.2.2.1.set (0+v.toNat) _,x.2.2.2.2.2.2.2.2.2.2.2.2.2.2.2.2.2.2.2.2.2.2.2.1.take ((x.2.2.2.2.2.2.2.2.2.2.2.2.2.2.2.2.2.2.2.2.2.2.2.1.length:Int)-1).toNat,x.2.2.2.2.2.2.2.2.2.2.2.2.2.2.2.2.2.2.2.2.2.2.2.2.1,x.2.2.2.2.2.2.2.2.2.2.2.2.2.1,x.2.2.2.2.2.2.2.2.2.2.2.2.2.2.2.2.2.2.1)) rfl ⟨h.s,h.e,h.lo,h.hi,h.pats,h.pn,?_,?_,?_,?_,?_,h.tx,?_⟩ (Ru h) hc) (λy hy=>okl hy)
 ·simp only[qAx];exact h.cn
 ·intro p hp;have:=hop p (List.mem_of_mem_take hp);simp only[qAx];exact⟨this.1,by omega⟩
 ·intro p hp;have:=hwa p hp;simp only[qAx];exact⟨this.1,by omega⟩
 ·simp only[qAb];omega
 ·exact zG h.wn (by omega)
 ·intro p hp;rcases qGs hp with hp|rfl
  ·exact h.ct p hp
  ·have hq:=h.ct _ (Rv hvn (Ty.dflt aB));exact hq
theorem yJd(h:Rd S c 0 x)(hc:c<=5000)(hf:Fu S n):Ans (rA n x) (Ok λy=>Nx S (c+1) 0 x y):=by
 obtain⟨f1,f2,f3⟩:=hf;have hf:Fu S n:=⟨f1,f2,f3⟩;unfold rA;refine ok2 (any_ok h hf) ?_ (λz=>⟨_,rfl⟩);rintro⟨d,w⟩ ⟨hw,g1⟩;simp only at hw;subst hw;have k1:RdK S c 0 (kat (bQ x) (x.2.2.1+1)):=yJ h (by show x.2.2.1<=_;omega) g1;have e1:Fx x (kat (bQ x) (x.2.2.1+1)):=Gu (Ru h) (by show x.2.2.1<=_;omega);refine ok2 (zXk (x:=qF x (x.2.2.1+1)) d k1 hf) ?_ (λz=>⟨_,rfl⟩);rintro⟨v,w⟩ ⟨⟨k2,e2⟩,hv,hp⟩;simp only at k2 e2 hv hp;have e2:Fx x (bQ w):=⟨qGq e1.1 e2.1,zG e1.2 e2.2⟩;have tk:∀ W:Sc0,bQ W=bQ w->W.2.2.2.2.2.2.2.2.2.2.2.2.2.2.2.2.2.1=v->Ans (fB n (d,W)) (Ok λy=>∃ a,y.2=qF W a/\(bQ w).2.2.1<=a/\a<=S.length/\y.1.length<=S.length):=by
  intro W hW _;have hR:RdK S c 0 (bQ W):=by rw[hW];exact k2
  refine(zIq (x:=W) d hR hf).mono λs hs=>⟨λy e=>?_,hs.2⟩
  obtain⟨a,q1,q2,q3⟩:=hs.1 y e;exact⟨a,q1,by rw[<- hW];exact q2,q3⟩
 refine ok2 (tk ((w.1,w.2.1,w.2.2.1,w.2.2.2.1,w.2.2.2.2.1,w.2.2.2.2.2.1,w.2.2.2.2.2.2.1,w.2.2.2.2.2.2.2.1,w.2.2.2.2.2.2.2.2.1,w.2.2.2.2.2.2.2.2.2.1,w.2.2.2.2.2.2.2.2.2.2.1,w.2.2.2.2.2.2.2.2.2.2.2.1,w.2.2.2.2.2.2.2.2.2.2.2.2.1,w.2.2.2.2.2.2.2.2.2.2.2.2.2.1,w.2.2.2.2.2.2.2.2.2.2.2.2.2.2.1,w.2.2.2.2.2.2.2.2.2.2.2.2.2.2.2.1,w.2.2.2.2.2.2.2.2.2.2.2.2.2.2.2.2.1,v,w.2.2.2.2.2.2.2.2.2.2.2.2.2.2.2.2.2.2.1,w.2.2.2.2.2.2.2.2.2.2.2.2.2.2.2.2.2.2.2.1,w.2.2.2.2.2.2.2.2.2.2.2.2.2.2.2.2.2.2.2.2.1,w.2.2.2.2.2.2.2.2.2.2.2.2.2.2.2.2.2.2.2.2.2.1,w.2.2.2.2.2.2.2.2.2.2.2.2.2.2.2.2.2.2.2.2.2.2.1,w.2.2.2.2.2.2.2.2.2.2.2.2.2.2.2.2.2.2.2.2.2.2.2.1,w.2.2.2.2.2.2.2.2.2.2.2.2.2.2.2.2.2.2.2.2.2.2.2.2.1,w.2.2.2.2.2.2.2.2.2.2.2.2.2.2.2.2.2.2.2.2.2.2.2.2.2.1,())) rfl rfl) ?_ (λz=>⟨_,rfl⟩);rintro⟨t,w2⟩ ⟨a,hw2,g3,g4,g5⟩;simp only at hw2 g5;subst hw2;have k3:RdK S c 0 (kat (bQ w) a):=yJ k2 g3 g4;have e3:Fx x (kat (bQ w) a):=Gu e2 g3;refine Ans.ob _ (yZf (n:=n) (s:=t) (by omega) (by omega)) ?_;rintro⟨l,i1,i2⟩ hl;simp only at hl;refine ok2 Rt (λ_ _=>?_) (λz=>⟨_,rfl⟩);have hpn:rpn w<=999:=k2.pn;have hv0:0<=v/\v<(rpn w:Int):=by rw[hv,hp];omega
 have hvn:0+v.toNat<rpn w:=by omega
 refine Ans.chk (show(inB v (rpn w)&&decide (0+rpn w<=rpn w))=true from sI (bI hv0.1 hv0.2) (decide_eq_true (by omega))) (Ans.chk (show decide (0+v.toNat<rpn w)=true from decide_eq_true hvn) ?_);have hpat:zIp ((bQ w).2.2.2.1.getD (0+v.toNat) (Ty.dflt aU)).1:=k2.pats _ (Rv hvn _);refine Ans.chk (show inB 0 ((bQ w).2.2.2.1.getD (0+v.toNat) (Ty.dflt aU)).1.length=true from bI (qEe _) (by have:=hpat.1;omega)) ?_;have hln:l.length<=9000:=by have:=hf.1;omega
 have fl:∀ U:Sc0,bQ U=kpa (kat (bQ w) a) l->Ans (ob2 (iN n U) (λy41 =>
  ob (cO n (y41.2)) λy42 =>
  br (!y41.1) (
   ob2 (eO n (y42)) (λy43 =>
    some (.inl (y43))) (λy43 =>
    some (.inr (y43)))) (
   some (.inl (y42)))) (λy41 =>
  some (.inr (y41))):Option (Sum Sc0 (Int × Sc0))) (Ok λy=>Nx S (c+1) 0 x y):=by
  intro U hU;refine ok2 (xMi (x:=x) hU (yVg k3 hln) (xIg e3) (by show 1<=rpn w;omega) hf) ?_ (λz=>⟨_,rfl⟩);rintro⟨b,y⟩ hy;refine Ans.ob _ (yDp (x:=x) (q:=bQ y) rfl (RdK.sl hy.1) hy.2 hc) ?_;intro y2 hy2;exact Ans.br (λ_=>ok2 (zTp hy2.1 hf) (λz hz=>okl (hy2.cat hz)) (λz=>⟨_,rfl⟩)) (λ_=>okl hy2)
 refine Ans.br (λ_=>?_) (λ_=>fl _ rfl);refine Ans.ob _ (xDl (n:=n) (l:=l) (by omega) (by omega)) (λ_ _=>Ans.ob _ (yVd (n:=n) (by omega) hpat) (λ_ _=>Ans.br (λ_=>iY (okr (by decide))) (λ_=>fl _ rfl)))
end Go.Dec
namespace Go.Dec
variable {n:Nat}{S:List UInt8}{c k:Nat}{x y z T:Sc0}{q:Rq}
theorem yRp{X:Sc2}(hs:X.1=S)(h0:0<=X.2.2.1)(h1:X.2.2.1<=S.length)(hf:Fu S n):Ans (iT n X) (Ok λy=>∃ a,y.2=(X.1,X.2.1,a,X.2.2.2)/\X.2.2.1<=a/\a<=S.length):=by
 obtain⟨f1,f2,f3⟩:=hf;have hb:Ans (gW n X) λy=>∃ a,y=(X.1,X.2.1,a,X.2.2.2)/\X.2.2.1<=a/\a<=S.length:=by
  unfold gW;simp only[hs];refine Ans.ob _ (yBd (n:=n) (s:=S) (a:=X.2.2.1) (by omega) f3 h0 h1) ?_;rintro a ⟨g1,g2⟩;exact Ans.some ⟨a,rfl,g1,g2⟩
 have hwd:Ans (iR n ([59,125],X)) λy=>∃ a,y.2=(X.1,X.2.1,a,X.2.2.2)/\X.2.2.1<=a/\a<=S.length/\y.1.length<=S.length:=by
  unfold iR;refine Ans.ob _ hb ?_;rintro _ ⟨a,rfl,g1,g2⟩;simp only[hs];refine Ans.ob _ (yMi (n:=n) (s:=S) (a:=a) (by omega) f3 (by omega) g2 _) ?_;rintro w ⟨k1,k2,k3⟩;exact Ans.some ⟨w.2,rfl,by omega,k2,k3⟩
 unfold iT;refine Ans.ob _ hwd ?_;rintro⟨t,w⟩ ⟨a,hw,g1,g2,g3⟩;simp only at hw g3;subst hw;obtain⟨b,hb⟩:=xBs (n:=n) t (by omega);simp only;rw[hb,aK];exact Ans.br (λ_=>iY (okr (by decide))) (λ_=>okl ⟨a,rfl,g1,g2⟩)
theorem yVh{X:Sc4}(hs:X.1=S)(h0:0<=X.2.2.1)(h1:X.2.2.1<=S.length)(hf:Fu S n):Ans (gX n X) (Ok λy=>∃ a,y.2=(X.1,X.2.1,a,X.2.2.2)/\X.2.2.1<=a/\a<=S.length):=by
 unfold gX;obtain⟨r,hr,hP⟩:=yRp (n:=n) (S:=S) (X:=(X.1,X.2.1,X.2.2.1,undef,X.2.2.2.1,undef,X.2.2.2.2.1,X.2.2.2.2.2.1,X.2.2.2.2.2.2.1,X.2.2.2.2.2.2.2.1,X.2.2.2.2.2.2.2.2.1,X.2.2.2.2.2.2.2.2.2.1,X.2.2.2.2.2.2.2.2.2.2.1,X.2.2.2.2.2.2.2.2.2.2.2.1,X.2.2.2.2.2.2.2.2.2.2.2.2.1,X.2.2.2.2.2.2.2.2.2.2.2.2.2.1,X.2.2.2.2.2.2.2.2.2.2.2.2.2.2.1,X.2.2.2.2.2.2.2.2.2.2.2.2.2.2.2.1,X.2.2.2.2.2.2.2.2.2.2.2.2.2.2.2.2.1,X.2.2.2.2.2.2.2.2.2.2.2.2.2.2.2.2.2.1,X.2.2.2.2.2.2.2.2.2.2.2.2.2.2.2.2.2.2.1,X.2.2.2.2.2.2.2.2.2.2.2.2.2.2.2.2.2.2.2.1,undef,X.2.2.2.2.2.2.2.2.2.2.2.2.2.2.2.2.2.2.2.2)) hs h0 h1 hf;rw[hr];cases r with
 |inr z=>exact okr (hP.2 _ rfl)
 |inl y =>
  obtain⟨t,w⟩:=y;obtain⟨a,hw,g1,g2⟩:=hP.1 _ rfl;simp only at hw;subst hw;exact okl ⟨a,rfl,g1,g2⟩
theorem zNn(h:Rd S c 0 x)(hc:c<=5000)(hf:Fu S n):Ans (jV n x) (Ok λy=>Nx S (c+1) 0 x y):=by
 have hwn:x.2.2.2.2.2.2.2.2.2.2.2.2.2.2.2.2.2.2.2.2.2.2.2.2.1.length<=c+0:=h.wn;have hop:∀ p∈x.2.2.2.2.2.2.2.2.2.2.2.2.2.2.2.2.2.2.2.2.2.2.2.1,0<=p.1/\p.1<(x.2.2.2.2.2.2.2.2.2.2.2.2.2.2.2.2.2.2.2.2.2.2.1.length:Int)+(0:Nat):=h.op;have hwa:∀ p∈x.2.2.2.2.2.2.2.2.2.2.2.2.2.2.2.2.2.2.2.2.2.2.2.2.1,0<=p.1/\p.1<(x.2.2.2.2.2.2.2.2.2.2.2.2.2.2.2.2.2.2.2.2.2.2.1.length:Int)+(0:Nat):=h.wa;unfold jV;refine ok2 (yVh (S:=S) h.s h.lo h.hi hf) ?_ (λz=>⟨_,rfl⟩);rintro⟨t,w⟩ ⟨a,hw,g1,g2⟩;simp only at hw g1;subst hw;refine Ans.chk (Uo (m:=x.2.2.2.2.2.2.2.2.2.2.2.2.2.2.2.2.2.2.2.2.2.2.2.2.1.length+1) (by omega)) ?_;have kk:RdK S c 1 (x.1,x.2.1,a,x.2.2.2.2.2.2.2.2.2.2.2.2.2.2.2.2.2.2.2.2.2.1,x.2.2.2.2.2.2.2.2.2.2.2.2.2.2.2.2.2.2.2.2.2.2.1,x.2.2.2.2.2.2.2.2.2.2.2.2.2.2.2.2.2.2.2.2.2.2.2.1,x.2.2.2.2.2.2.2.2.2.2.2.2.2.2.2.2.2.2.2.2.2.2.2.2.1++[(((x.2.2.2.2.2.2.2.2.2.2.2.2.2.2.2.2.2.2.2.2.2.2.1.length:Nat):Int),(x.2.2.2.1,(t,())))],x.2.2.2.2.2.2.2.2.2.2.2.2.2.1,x.2.2.2.2.2.2.2.2.2.2.2.2.2.2.2.2.2.2.1):=by
  refine⟨h.s,h.e,qGq h.lo g1,g2,h.pats,h.pn,h.cn,λp hp=>?_,λp hp=>?_,zG h.on (by omega),by simp only[xG,qFl];omega,h.tx,h.ct⟩
  ·have:=hop p hp;exact⟨this.1,by have:=this.2;simp only;omega⟩
  ·rcases qAp.1 hp with hp|hp
   ·have:=hwa p hp;exact⟨this.1,by have:=this.2;simp only;omega⟩
   ·obtain rfl:=qCp.1 hp;exact⟨by simp only;omega,by simp only;omega⟩
 exact ok2 (yRo rfl kk ⟨g1,aS _⟩ hc hf) (λy hy=>okl hy) (λz=>⟨_,rfl⟩)
theorem xIh(h:Rd S c 0 x)(hc:c<=5000)(hf:Fu S n):Ans (eU n x) (Ok λy=>Nx S (c+1) 0 x y):=by
 unfold eU;simp only;refine Ans.br (λ_=>iY (okr (by decide))) (λh0=>?_);refine Ans.br (λ_=>Ans.ob _ (yVf h hc) (λy hy=>okl hy)) (λxMj=>?_);refine Ans.br (λ_=>ok2 (xAa h hc) (λy hy=>okl hy) (λz=>⟨_,rfl⟩)) (λxMk=>?_);refine Ans.br (λ_=>ok2 (yZz h hf) (λy hy=>okl hy) (λz=>⟨_,rfl⟩)) (λh58=>?_);refine Ans.br (λ_=>ok2 (yJd h hc hf) (λy hy=>okl hy) (λz=>⟨_,rfl⟩)) (λxMl=>?_);refine Ans.br (λ_=>ok2 (yJc h hc hf) (λy hy=>okl hy) (λz=>⟨_,rfl⟩)) (λxMm=>?_);refine Ans.br (λ_=>ok2 (oM (Rd.Kv h) hc hf) (λy hy=>okl hy) (λz=>⟨_,rfl⟩)) (λh61=>?_);refine Ans.br (λ_=>ok2 (oM (Rd.Kv h) hc hf) (λy hy=>okl hy) (λz=>⟨_,rfl⟩)) (λxMn=>?_);refine Ans.br (λ_=>ok2 (oM (Rd.Kv h) hc hf) (λy hy=>okl hy) (λz=>⟨_,rfl⟩)) (λh68=>?_);refine Ans.br (λ_=>ok2 (oM (Rd.Kv h) hc hf) (λy hy=>okl hy) (λz=>⟨_,rfl⟩)) (λxMo=>?_);refine Ans.br (λ_=>ok2 (oM (Rd.Kv h) hc hf) (λy hy=>okl hy) (λz=>⟨_,rfl⟩)) (λh71=>?_);refine Ans.br (λ_=>ok2 (oM (Rd.Kv h) hc hf) (λy hy=>okl hy) (λz=>⟨_,rfl⟩)) (λxMp=>?_);refine Ans.br (λ_=>ok2 (oM (Rd.Kv h) hc hf) (λy hy=>okl hy) (λz=>⟨_,rfl⟩)) (λh72=>?_);refine Ans.br (λ_=>ok2 (oM (Rd.Kv h) hc hf) (λy hy=>okl hy) (λz=>⟨_,rfl⟩)) (λxHr=>?_);refine Ans.br (λ_=>ok2 (oM (Rd.Kv h) hc hf) (λy hy=>okl hy) (λz=>⟨_,rfl⟩)) (λh78=>?_);refine Ans.br (λ_=>ok2 (oM (Rd.Kv h) hc hf) (λy hy=>okl hy) (λz=>⟨_,rfl⟩)) (λh112=>?_);refine Ans.br (λ_=>ok2 (oM (Rd.Kv h) hc hf) (λy hy=>okl hy) (λz=>⟨_,rfl⟩)) (λh80=>?_);refine Ans.br (λ_=>ok2 (oM (Rd.Kv h) hc hf) (λy hy=>okl hy) (λz=>⟨_,rfl⟩)) (λyIp=>?_);refine Ans.br (λ_=>ok2 (zEe h hc hf) (λy hy=>okl hy) (λz=>⟨_,rfl⟩)) (λh97=>?_);refine Ans.br (λ_=>ok2 (zEe h hc hf) (λy hy=>okl hy) (λz=>⟨_,rfl⟩)) (λxMq=>?_);refine Ans.br (λ_=>ok2 (zEe h hc hf) (λy hy=>okl hy) (λz=>⟨_,rfl⟩)) (λh99=>?_);refine Ans.br (λ_=>ok2 (zNn h hc hf) (λy hy=>okl hy) (λz=>⟨_,rfl⟩)) (λh98=>?_);refine Ans.br (λ_=>ok2 (zNn h hc hf) (λy hy=>okl hy) (λz=>⟨_,rfl⟩)) (λh116=>?_);refine Ans.br (λ_=>ok2 (zNn h hc hf) (λy hy=>okl hy) (λz=>⟨_,rfl⟩)) (λh84=>?_);refine Ans.br (λ_=>ok2 (zIr h hc hf) (λy hy=>okl hy) (λz=>⟨_,rfl⟩)) (λxMr=>?_);refine Ans.br (λ_=>ok2 (zIr h hc hf) (λy hy=>okl hy) (λz=>⟨_,rfl⟩)) (λxMs=>?_);refine Ans.br (λ_=>ok2 (zIr h hc hf) (λy hy=>okl hy) (λz=>⟨_,rfl⟩)) (λh81=>?_);refine Ans.br (λ_=>ok2 (yMv h hc hf) (λy hy=>okl hy) (λz=>⟨_,rfl⟩)) (λxMt=>?_);refine Ans.br (λ_=>ok2 (yMv h hc hf) (λy hy=>okl hy) (λz=>⟨_,rfl⟩)) (λh119=>?_);rw[xMj,xMk,h58,xMl,xMm,h61,xMn,h68,xMo,h71,xMp,h72,xHr,h78,h112,h80,yIp,h97,xMq,h99,h98,h116,h84,xMr,xMs,h81,xMt,h119]at h0;cases h0
theorem xIi(v:Int)(h:Rd S c 0 x)(hc:c<=5000)(hf:Fu S n):Ans (jn (gL n) (v,x)) (Ok λy=>Nx S (c+1) 0 x y/\x.2.2.1<y.2.2.1):=by
 show Ans (gL n (v,x)) _;unfold gL;refine ok2 (any_ok h hf) ?_ (λz=>⟨_,rfl⟩);rintro⟨d,w⟩ ⟨hw,g1⟩;simp only at hw;subst hw;have k1:RdK S c 0 (kat (bQ x) (x.2.2.1+1)):=yJ h (by show x.2.2.1<=_;omega) g1;have go:∀ U:Sc0,bQ U=kat (bQ x) (x.2.2.1+1)->Ans (jn (eU n) U) (Ok λy=>Nx S (c+1) 0 x y/\x.2.2.1<y.2.2.1):=by
  intro U hU;have hR:RdK S c 0 (bQ U):=by rw[hU];exact k1
  show Ans (eU n U) _;refine(xIh (x:=U) hR hc hf).mono λs hs=>⟨λy e=>?_,hs.2⟩
  have:=hs.1 y e;have h1:(bQ U).2.2.1<=(bQ y).2.2.1:=this.2.1;have h2:(bQ U).2.2.2.1.length<=(bQ y).2.2.2.1.length:=this.2.2;rw[hU]at h1 h2;have h1:x.2.2.1+1<=y.2.2.1:=h1;exact⟨⟨this.1,by show x.2.2.1<=y.2.2.1;omega,h2⟩,by omega⟩
 obtain⟨i1,q1⟩:=zFz (n:=n) [125,58] d;obtain⟨i2,q2⟩:=zFz (n:=n) [113,81] d;have tail:∀ (o:Option (Sum Sc0 (Int × Sc0))),True->True:=λ_ _=>trivial
 refine Ans.ob (λy=>y=i1) ⟨i1,q1,rfl⟩ ?_;rintro _ rfl;refine Ans.br (λ_=>Ans.br (λ_=>iY (okr (by decide))) (λ_=>Ans.br (λ_=>iY (okr (by decide))) (λ_=>?_))) (λ_=>?_)
 ·refine Ans.ob (λy=>y=i2) ⟨i2,q2,rfl⟩ ?_;rintro _ rfl;exact Ans.br (λ_=>Ans.br (λ_=>iY (okr (by decide))) (λ_=>go _ rfl)) (λ_=>go _ rfl)
 ·refine Ans.ob (λy=>y=i2) ⟨i2,q2,rfl⟩ ?_;rintro _ rfl;exact Ans.br (λ_=>Ans.br (λ_=>iY (okr (by decide))) (λ_=>go _ rfl)) (λ_=>go _ rfl)
theorem yRq(h:Rd S c 0 x)(hc:c<=5000)(hf:Fu S n):Ans (oF n x) (Ok λy=>Nx S (c+1) 0 x y/\x.2.2.1<y.2.2.1):=by
 have up:∀ (w:Sc0) (v:Int),Nx S c 0 x w->Ans (jn (gL n) (v,w)) (Ok λy=>Nx S (c+1) 0 x y/\x.2.2.1<y.2.2.1):=by
  intro w v hw;refine(xIi v hw.1 hc hf).mono λs hs=>⟨λy e=>?_,hs.2⟩
  have:=hs.1 y e;have h1:x.2.2.1<=w.2.2.1:=hw.2.1;exact⟨hw.cat this.1,by have:=this.2;omega⟩
 unfold oF;have k0:RdK S c 0 (kpa (ktx (bQ x) []) []):=yVg (zXm h (qAm _)) (qAm _);refine ok2 (show Ans _ (Ok λy=>Nx S c 0 x y.2)from (yIy (n:=n) (S:=S) (c:=c) (k:=0) (x:=(x.1,x.2.1,x.2.2.1,x.2.2.1,x.2.2.2.2.1,0,0,0,0,0,0,false,0,[],[],0,0,(-1),[],false,false,x.2.2.2.2.2.2.2.2.2.2.2.2.2.2.2.2.2.2.2.2.2)) k0 hf).mono λs hs=>⟨λy e=>hs.1 y e,hs.2⟩) ?_ (λz=>⟨_,rfl⟩);rintro⟨v,w⟩ hw;simp only at hw;refine Ans.ob _ (yI hw.1 hf) ?_;rintro _ ⟨a,rfl,g1,g2⟩;have hn:=hw.trans (Rd.at hw.1 g1 g2);refine Ans.ob _ (Rs [33] hn.1 hf) ?_;rintro⟨b,w2⟩ ⟨a2,hw2,g3,g4⟩;simp only at hw2;subst hw2;have hn2:=hn.trans (Rd.at hn.1 g3 g4);refine Ans.br (λ_=>?_) (λ_=>up _ v hn2);have k2:RdK S c 0 (kat (bQ (qF w a)) a2):=hn2.1;have e2:Fx x (kat (bQ (qF w a)) a2):=hn2.2;have bl:∀ U:Sc0,bQ U=kat (bQ (qF w a)) a2->Ans (bR n U) λy=>Nx S c 0 x y:=by
  intro U hU;have hR:RdK S c 0 (bQ U):=by rw[hU];exact k2
  refine(yI (x:=U) hR hf).mono ?_;rintro _ ⟨a3,rfl,g5,g6⟩;have h7:=Rd.at (x:=U) hR g5 g6;exact⟨h7.1,by have:=h7.2.1;rw[hU]at this;exact qGq e2.1 this,by have:=h7.2.2;rw[hU]at this;exact zG e2.2 this⟩
 exact Ans.ob _ (bl _ rfl) (λy hy=>up y v hy)
end Go.Dec
namespace Go.Dec
variable {n:Nat}{S:List UInt8}{c k:Nat}{x y z T:Sc0}{q:Rq}
theorem RdK.mono{c2:Nat}(h:RdK S c k q)(hc:c<=c2):RdK S c2 k q:=⟨h.s,h.e,h.lo,h.hi,h.pats,h.pn,zG h.cn hc,h.op,h.wa,zG h.on (by omega),zG h.wn (by omega),h.tx,h.ct⟩
def WaI (S:List UInt8) (c:Nat) (X:Int×Int×Sc0):Prop:=RdK S c 0 (bQ X.2.2) ∧ X.1 = ((bQ X.2.2).2.2.2.2.2.2.1.length:Int) ∧ 0<=X.2.1 ∧ X.2.1<=X.1
abbrev WhP(S:List UInt8)(c:Nat):Sum Sc0 (Int × Sc0)->Prop:=Ok λy=>RdK S c 0 (bQ y)
theorem yVi(v:Int)(b:Bool){t i:Int}{w:Sc0}{p:PlT}{r:Int × Int × Sc0->Option (Sum Sc0 (Int × Sc0))}(h:WaI S c (t,i,w))(hi:i<t)(hp:p∈w.2.2.2.2.2.2.2.2.2.2.2.2.2.2.2.2.2.2.2.2.2.2.2.2.1)(hc:c<=5000)(hr:∀ Y,WaI S c Y->Y.2.1=i+1->Y.1=t->Ans (r Y) (WhP S c)):Ans (jn (kP n r) (v,b,t,i,w.1,w.2.1,w.2.2.1,w.2.2.2.1,w.2.2.2.2.1,w.2.2.2.2.2.1,w.2.2.2.2.2.2.1,w.2.2.2.2.2.2.2.1,w.2.2.2.2.2.2.2.2.1,w.2.2.2.2.2.2.2.2.2.1,w.2.2.2.2.2.2.2.2.2.2.1,w.2.2.2.2.2.2.2.2.2.2.2.1,w.2.2.2.2.2.2.2.2.2.2.2.2.1,w.2.2.2.2.2.2.2.2.2.2.2.2.2.1,w.2.2.2.2.2.2.2.2.2.2.2.2.2.2.1,w.2.2.2.2.2.2.2.2.2.2.2.2.2.2.2.1,w.2.2.2.2.2.2.2.2.2.2.2.2.2.2.2.2.1,w.2.2.2.2.2.2.2.2.2.2.2.2.2.2.2.2.2.1,w.2.2.2.2.2.2.2.2.2.2.2.2.2.2.2.2.2.2.1,w.2.2.2.2.2.2.2.2.2.2.2.2.2.2.2.2.2.2.2.1,w.2.2.2.2.2.2.2.2.2.2.2.2.2.2.2.2.2.2.2.2.1,w.2.2.2.2.2.2.2.2.2.2.2.2.2.2.2.2.2.2.2.2.2.1,w.2.2.2.2.2.2.2.2.2.2.2.2.2.2.2.2.2.2.2.2.2.2.1,w.2.2.2.2.2.2.2.2.2.2.2.2.2.2.2.2.2.2.2.2.2.2.2.1,w.2.2.2.2.2.2.2.2.2.2.2.2.2.2.2.2.2.2.2.2.2.2.2.2.1,w.2.2.2.2.2.2.2.2.2.2.2.2.2.2.2.2.2.2.2.2.2.2.2.2.2.1,p.1,p.2.1,p.2.2.1,())) (WhP S c):=by
 obtain⟨hR,ht,h0,h1⟩:=h;have hwn:(bQ w).2.2.2.2.2.2.1.length<=c+0:=hR.wn;have hwa:0<=p.1/\p.1<(w.2.2.2.2.2.2.2.2.2.2.2.2.2.2.2.2.2.2.2.2.2.2.1.length:Int)+(0:Nat):=hR.wa p hp;have hop:∀ p∈w.2.2.2.2.2.2.2.2.2.2.2.2.2.2.2.2.2.2.2.2.2.2.2.1,0<=p.1/\p.1<(w.2.2.2.2.2.2.2.2.2.2.2.2.2.2.2.2.2.2.2.2.2.2.1.length:Int)+(0:Nat):=hR.op;have hwb:∀ p∈w.2.2.2.2.2.2.2.2.2.2.2.2.2.2.2.2.2.2.2.2.2.2.2.2.1,0<=p.1/\p.1<(w.2.2.2.2.2.2.2.2.2.2.2.2.2.2.2.2.2.2.2.2.2.2.1.length:Int)+(0:Nat):=hR.wa;simp only at ht h0 h1;show Ans (kP n r _) _;unfold kP;refine Ans.br (λ_=>iY (okr (by decide))) (λ_=>?_);refine Ans.chk (show(inB p.1 w.2.2.2.2.2.2.2.2.2.2.2.2.2.2.2.2.2.2.2.2.2.2.1.length&&decide (0+w.2.2.2.2.2.2.2.2.2.2.2.2.2.2.2.2.2.2.2.2.2.2.1.length<=w.2.2.2.2.2.2.2.2.2.2.2.2.2.2.2.2.2.2.2.2.2.2.1.length))=true from sI (bI hwa.1 (by omega)) (decide_eq_true (by omega))) (Ans.chk (show decide (0+p.1.toNat<w.2.2.2.2.2.2.2.2.2.2.2.2.2.2.2.2.2.2.2.2.2.2.1.length)=true from decide_eq_true (by omega)) ?_);have hvn:0+p.1.toNat<w.2.2.2.2.2.2.2.2.2.2.2.2.2.2.2.2.2.2.2.2.2.2.1.length:=by have h1:=hwa.1;have h2:=hwa.2;omega
 have hw:qEq .i64 (i+1)=i+1:=bD (by omega) (by omega);refine hr _ ⟨⟨hR.s,hR.e,hR.lo,hR.hi,hR.pats,hR.pn,?_,?_,?_,hR.on,hR.wn,hR.tx,?_⟩,ht,?_,?_⟩ hw rfl
 ·simp only[bQ,qAx];exact hR.cn
 ·intro u hu;have:=hop u hu;simp only[bQ,qAx];exact this
 ·intro u hu;have:=hwb u hu;simp only[bQ,qAx];exact this
 ·intro u hu;rcases qGs hu with hu|rfl
  ·exact hR.ct u hu
  ·have hq:=hR.ct _ (Rv hvn (Ty.dflt aB));exact hq
 ·show 0<=qEq .i64 (i+1);omega
 ·show qEq .i64 (i+1)<=t;omega
theorem xIj(h:RdK S c 0 (bQ x))(hc:c<=5000)(hf:Fu S n):Ans (jn (oP n) x) (WhP S c):=by
 show Ans (oP n x) _;unfold oP;have hwn:x.2.2.2.2.2.2.2.2.2.2.2.2.2.2.2.2.2.2.2.2.2.2.2.2.1.length<=c+0:=h.wn;refine Ans.loop (WaI S c) (λX=>(X.1-X.2.1).toNat) ?_ n _ ⟨h,rfl,qEe _,by simp only;omega⟩ (by have:=hf.2.1;simp only;omega);rintro r ⟨t,i,w⟩ hX hr;obtain⟨hR,ht,h0,h1⟩:=hX;simp only at hR ht h0 h1 hr;have hwn2:w.2.2.2.2.2.2.2.2.2.2.2.2.2.2.2.2.2.2.2.2.2.2.2.2.1.length<=c+0:=hR.wn;have ht2:t=(w.2.2.2.2.2.2.2.2.2.2.2.2.2.2.2.2.2.2.2.2.2.2.2.2.1.length:Int):=ht;unfold Ei;refine Ans.br (λhlt=>?_) (λ_=>okl hR);have hlt:i<t:=jZ hlt;have hil:0+i.toNat<w.2.2.2.2.2.2.2.2.2.2.2.2.2.2.2.2.2.2.2.2.2.2.2.2.1.length:=by omega
 refine Ans.chk (show(inB i w.2.2.2.2.2.2.2.2.2.2.2.2.2.2.2.2.2.2.2.2.2.2.2.2.1.length&&decide (0+w.2.2.2.2.2.2.2.2.2.2.2.2.2.2.2.2.2.2.2.2.2.2.2.2.1.length<=w.2.2.2.2.2.2.2.2.2.2.2.2.2.2.2.2.2.2.2.2.2.2.2.2.1.length))=true from sI (bI h0 (by omega)) (decide_eq_true (by omega))) (Ans.chk (show decide (0+i.toNat<w.2.2.2.2.2.2.2.2.2.2.2.2.2.2.2.2.2.2.2.2.2.2.2.2.1.length)=true from decide_eq_true hil) ?_);have nx:∀ Y,WaI S c Y->Y.2.1=i+1->Y.1=t->Ans (r Y) (WhP S c):=λY hY h2 h3=>hr Y hY (by rw[h2,h3];omega)
 exact Ans.br (λ_=>yVi _ _ ⟨hR,ht,h0,h1⟩ hlt (Rv hil _) hc nx) (λ_=>yVi _ _ ⟨hR,ht,h0,h1⟩ hlt (Rv hil _) hc nx)
theorem yRr(h:Rd S c k x)(hd:S[x.2.2.1.toNat]?=some 35)(hf:Fu S n):Ans (eB n ([],x)) λy=>∃ a,y.2=qF x a/\x.2.2.1<a/\a<=S.length:=by
 have hs:x.1=S:=h.s;have hlo:0<=x.2.2.1:=h.lo;obtain⟨f1,f2,f3⟩:=hf;unfold eB;refine Ans.ob (λy=>y=x) ?_ ?_
 ·unfold bR;simp only[hs];rw[yKp (n:=n) (by omega) f3 hlo hd,aK];exact Ans.some (by rw[<- hs])
 ·rintro _ rfl;simp only[hs];refine Ans.ob _ (yUn (n:=n) (s:=S) (by omega) f3 hlo hd) ?_;rintro⟨t,a⟩ ⟨k1,k2,k3⟩;exact Ans.some ⟨a,by unfold qF;rw[hs],k1,k2⟩
theorem xAb(h:RdK S (bQ x).2.2.1.toNat 0 (bQ x))(hf:Fu S n):Ans (nD n x) (WhP S 4000):=by
 unfold nD;refine Ans.ob (λ_=>True) ⟨(),rfl,trivial⟩ ?_;intro _ _;have hhi:x.2.2.1<=S.length:=h.hi;have hlo:0<=x.2.2.1:=h.lo;obtain⟨f1,f2,f3⟩:=hf;have hf:Fu S n:=⟨f1,f2,f3⟩;refine Ans.loop (λX:Sc0=>RdK S (bQ X).2.2.1.toNat 0 (bQ X)) (λX:Sc0=>((S.length:Int)-X.2.2.1).toNat) ?_ n _ h (by omega);intro r X hX hr;have hR:Rd S (bQ X).2.2.1.toNat 0 X:=hX;have hlo:0<=X.2.2.1:=hX.lo;have hhi:X.2.2.1<=S.length:=hX.hi;have hs:X.1=S:=hX.s;have hc:(bQ X).2.2.1.toNat<=4000:=by show X.2.2.1.toNat<=4000;omega
 have nx:∀ (Y:Sc0) (cc:Nat),RdK S cc 0 (bQ Y)->cc<=X.2.2.1.toNat+1->X.2.2.1<Y.2.2.1->Ans (r Y) (WhP S 4000):=by
  intro Y cc k1 k2 k3;refine hr Y (k1.mono ?_) ?_
  ·show cc<=Y.2.2.1.toNat;omega
  ·have:Y.2.2.1<=S.length:=k1.hi;omega
 unfold Ej;refine Ans.br (λhlt=>?_) (λ_=>?_)
 ·have hlt:X.2.2.1<(X.1.length:Int):=jZ hlt;rw[hs]at hlt;refine Ans.ob _ (Xq _ hR) ?_;rintro⟨b,w⟩ ⟨hw,_⟩;simp only at hw;have hw:=hw.symm;subst hw;refine Ans.br (λ_=>?_) (λ_=>?_)
  ·have hw:qEq .i64 (X.2.2.1+1)=X.2.2.1+1:=bD (by omega) (by omega);refine nx _ (bQ X).2.2.1.toNat (show RdK S _ 0 (kat (bQ X) (qEq .i64 (X.2.2.1+1)))from yJ hX (by rw[hw];show X.2.2.1<=_;omega) (by rw[hw];omega)) (qGv _) (by show X.2.2.1<qEq .i64 (X.2.2.1+1);omega)
  ·refine Ans.ob _ (Xq _ hR) ?_;rintro⟨b,w⟩ ⟨hw,g⟩;simp only at hw g;have hw:=hw.symm;subst hw;refine Ans.br (λhb=>?_) (λ_=>?_)
   ·obtain⟨_,d,hd,h35⟩:=g hb;have xMu:d=35:=by
     unfold Go.Lib.indexByte at h35;by_cases e:(35:UInt8)=d
     ·exact e.symm
     ·exfalso;revert h35;simp[Go.Lib.indexByte,e]
    subst xMu;refine Ans.ob _ (yRr hR hd hf) ?_;rintro⟨t,w⟩ ⟨a,hw,g1,g2⟩;simp only at hw;subst hw;exact nx _ (bQ X).2.2.1.toNat (yJ hX (qGr g1) g2) (qGv _) g1
   ·refine ok2 (yRq hR (by omega) hf) ?_ (λz=>⟨_,rfl⟩);rintro Y ⟨k1,k2⟩;exact nx Y _ k1.1 (aS _) k2
 ·have hon:X.2.2.2.2.2.2.2.2.2.2.2.2.2.2.2.2.2.2.2.2.2.2.2.1.length<=(bQ X).2.2.1.toNat+0:=hX.on;have hw:qEq .i64 ((X.2.2.2.2.2.2.2.2.2.2.2.2.2.2.2.2.2.2.2.2.2.2.2.1.length:Int)-1)=(X.2.2.2.2.2.2.2.2.2.2.2.2.2.2.2.2.2.2.2.2.2.2.2.1.length:Int)-1:=bD (by omega) (by omega);refine Ans.br (λhk=>?_) (λ_=>xIj (hX.mono hc) (by omega) hf);have hk:qEq .i64 ((X.2.2.2.2.2.2.2.2.2.2.2.2.2.2.2.2.2.2.2.2.2.2.2.1.length:Int)-1)≥0:=jZ hk;rw[hw]at hk;refine Ans.chk (show(inB (qEq .i64 ((X.2.2.2.2.2.2.2.2.2.2.2.2.2.2.2.2.2.2.2.2.2.2.2.1.length:Int)-1)) X.2.2.2.2.2.2.2.2.2.2.2.2.2.2.2.2.2.2.2.2.2.2.2.1.length&&decide (0+X.2.2.2.2.2.2.2.2.2.2.2.2.2.2.2.2.2.2.2.2.2.2.2.1.length<=X.2.2.2.2.2.2.2.2.2.2.2.2.2.2.2.2.2.2.2.2.2.2.2.1.length))=true from sI (by rw[hw];exact bI (by omega) (by omega)) (decide_eq_true (by omega))) (Ans.chk (show decide (0+(qEq .i64 ((X.2.2.2.2.2.2.2.2.2.2.2.2.2.2.2.2.2.2.2.2.2.2.2.1.length:Int)-1)).toNat<X.2.2.2.2.2.2.2.2.2.2.2.2.2.2.2.2.2.2.2.2.2.2.2.1.length)=true by rw[hw];exact decide_eq_true (by omega)) (iY (okr (by decide))))
def Sq (x:Bool×List (List NdT×Bool×Unit)×List Sc1×Unit):Prop:=(∀ p ∈ x.2.1,zIp p.1) ∧ x.2.1.length<=999 ∧ x.2.2.1.length<=4000 ∧ ∀ c ∈ x.2.2.1,c.2.2.1.length<=4001 ∧ c.2.2.2.2.2.2.2.1.length<=9000
theorem yMw(b:Bool):Sq (b,[],[],()):=⟨λp hp=>(nomatch hp),qAm _,qAm _,λp hp=>(nomatch hp)⟩
theorem xAc{s:List UInt8}(h2:20000<=n):Ans (sV n (s,false)) λy=>Sq y.1:=by
 have tr:∀ T:Sc0,s.length<=4000->RdK s (bQ T).2.2.1.toNat 0 (bQ T)->Ans (ob (bZ n T) λy=>br (y.1 != 0) (some ((false,([],([],()))),y.2.2.2.2.1,y.1)) (some ((y.2.2.2.2.2.1,(y.2.2.2.2.2.2.2.2.2.2.2.2.2.2.2.2.2.2.2.2.2.2.1,(y.2.2.2.2.2.2.2.2.2.2.2.2.2.2.2.2.2.2.2.2.2.2.2.1,()))),0,0))) λy:(Bool × List (List NdT × Bool × Unit) × List Sc1 × Unit) × Int × Int=>Sq y.1:=by
  intro T hs hT;obtain⟨r,hr,hP⟩:=xAb (x:=T) hT ⟨hs,h2,by omega⟩;unfold bZ;rw[hr];cases r with
  |inr z =>
   obtain⟨e,z⟩:=z;have he:e≠0:=hP.2 _ rfl;show Ans (br (e != 0) _ _) _;refine Ans.br (λ_=>Ans.some (yMw _)) (λhz=>absurd (by simpa using hz) he)
  |inl y =>
   have:=hP.1 y rfl;exact Ans.some ⟨this.pats,this.pn,this.cn,this.ct⟩
 have k0:∀ a:Int,0<=a->a<=s.length->RdK s a.toNat 0 (s,false,a,[],[],[],[],[],[]):=λa h0 h1=>⟨rfl,rfl,h0,h1,λp hp=>(nomatch hp),qAm _,qAm _,λp hp=>(nomatch hp),λp hp=>(nomatch hp),qAm _,qAm _,⟨qAm _,qAm _⟩,λp hp=>(nomatch hp)⟩
 unfold sV;simp only;refine Ans.br (λ_=>Ans.some (yMw _)) (λhs=>?_);have hs:=Am hs;refine Ans.br (λh=>tr _ (by omega) (k0 2 (by decide) ?_)) (λ_=>?_)
 ·have h:s=[35,110]:=by simpa using h
  rw[h];decide
 ·obtain⟨b,hb,hb2⟩:=zOp (n:=n) s [35,110,10];rw[hb,aK];refine Ans.br (λh=>tr _ (by omega) (k0 2 (by decide) ?_)) (λ_=>tr _ (by omega) (k0 0 (by decide) (by omega)));have:=hb2 h;simp only[xI,qBn]at this;omega
end Go.Dec
namespace Go.Dec
variable {n:Nat}
theorem yBr:∀ {l:List (List UInt8)},l.Nodup->Zb l=true
 |[],_=>rfl
 |a::r,h=>by
  have h:=List.nodup_cons.1 h;unfold Zb;rw[yBr h.2];simpa using h.1
theorem yJe(a:List UInt8):∀ l,(Nz a l).length=l.length+1
 |[]=>rfl
 |b::r=>by
  unfold Nz;cases decide (a<=b)with
  |true=>rfl
  |false=>show(Nz a r).length+1=_;rw[yJe a r];rfl
theorem zCu:∀ l,(tH l).length=l.length
 |[]=>rfl
 |a::r=>by unfold tH;rw[yJe,zCu r];rfl
def wO (k:Nat) (m:List (List UInt8×Int)):Prop:=(m.map qEs).Nodup ∧ m.length<=k ∧ ∀ e ∈ m,e.1.length<=4001
theorem wO.nil{k:Nat}:wO k []:=⟨List.nodup_nil,qAm _,λ_ h=>(nomatch h)⟩
theorem wO.mono{k k2:Nat}{m:List (List UInt8 × Int)}(h:wO k m)(hk:k<=k2):wO k2 m:=⟨h.1,zG h.2.1 hk,h.2.2⟩
theorem zIs(q:List UInt8)(v:Int):∀ m:List (List UInt8 × Int),(∀ u,fV .str m q=some u->(m.set (mIdx .str m q) (q,v)).map qEs=m.map qEs)/\(fV .str m q=none->q∉m.map qEs)
 |[]=>⟨λu hu=>(by cases hu),λ_=>by simp⟩
 |e::r=>by
  have ih:=zIs q v r;cases hb:Ty.beq .str q e.1 with
  |true=>exact⟨λu _=>by
   have he:q=e.1:=by
    have hb:(q==e.1)=true:=hb;exact eq_of_beq hb
   simp only[mIdx,hb,qGf,qBt];rw[he],λhn=>by simp[fV,hb]at hn⟩
  |false =>
   refine⟨λu hu=>?_,λhn=>?_⟩
   ·simp only[fV,hb]at hu;simp only[mIdx,hb,qGg,qBt,ih.1 u hu]
   ·simp only[fV,hb]at hn;rw[qBt,qEu];rintro(h|h)
    ·have:=yHy (t:=.str) rfl q;rw[h]at hb;rw[<- h,this]at hb;cases hb
    ·exact ih.2 hn h
theorem wO.set{k:Nat}{m:List (List UInt8 × Int)}{q:List UInt8}(h:wO k m)(v:Int)(hq:q.length<=4001):wO (k+1) (uV .str m q v):=by
 have hk:=zIs q v m;unfold uV;cases hf:fV .str m q with
 |none =>
  refine⟨?_,?_,?_⟩
  ·show((m++[(q,v)]).map qEs).Nodup;rw[qGu,List.nodup_append];refine⟨h.1,by simp,?_⟩;rintro a ha b hb rfl;have:a=q:=by simpa using hb
   exact hk.2 hf (this ▸ ha)
  ·show(m++[(q,v)]).length<=_;rw[xG];have:=h.2.1;simpa using this
  ·intro e he;rcases qAp.1 he with he|he
   ·exact h.2.2 e he
   ·obtain rfl:=qCp.1 he;exact hq
 |some u =>
  refine⟨?_,?_,?_⟩
  ·show((m.set (mIdx .str m q) (q,v)).map qEs).Nodup;rw[hk.1 u hf];exact h.1
  ·show(m.set (mIdx .str m q) (q,v)).length<=_;rw[qAx];exact Nat.le_succ_of_le h.2.1
  ·intro e he;rcases qGs he with he|rfl
   ·exact h.2.2 e he
   ·exact hq
theorem yBs{k:Nat}{m:List (List UInt8 × Int)}(h:wO k m)(hk:k<=4000):lF n (m,())=some (tH (m.map qEs),m,()):=by
 unfold lF;rw[show(Zb (m.map qEs)&&(qBg m.length 1000000&&m.all λe=>qBg e.1.length 1000000))=true from sI (yBr h.1) (sI (qFr (by have:=h.2.1;omega)) (List.all_eq_true.2 λe he=>qFr (by have:=h.2.2 e he;omega)))];rfl
abbrev FiX:Type:=List Sc1 × Int × Int × List (List UInt8 × Int) × List (List UInt8 × Int) × Unit
def FiI (L:List Sc1) (X:FiX):Prop:=X.1 = L ∧ X.2.1 = (L.length:Int) ∧ 0<=X.2.2.1 ∧ X.2.2.1<=(L.length:Int) ∧ wO X.2.2.1.toNat X.2.2.2.1 ∧ wO X.2.2.1.toNat X.2.2.2.2.1
theorem yKt(zs:List (List UInt8)):(Go.Lib.compact zs).length<=zs.length:=by
 unfold Go.Lib.compact Go.Lib.compactUpTo;rw[qFs];exact zG (List.length_filter_le _ _) (by rw[List.length_range];exact aS _)
def xAd (x:aO.den) (y:List (List UInt8)×List (List UInt8)):Prop:=y.1.length<=5000 ∧ y.2.length<=4000 ∧ (x.2.2.2.1 = true->y = ([],[]))
end Go.Dec
namespace Go.Dec
variable {n:Nat}
theorem zIt{α:Type}{d:α}{s:List α}{i:Int}(h:i.toNat<s.length):aM d s i=s[i.toNat]:=by
 simp[aM,wG,h]
theorem xAe{l:List NdT}(hn:20000<=n)(h:zIp l):Ans (Jr n l) λ_=>True:=by
 obtain⟨_,h2,h3⟩:=h;unfold Jr;simp only;refine Ans.loop (λX:List NdT × Int × List NdT × Unit=>X.1=l/\0<=X.2.1/\X.2.1<=(l.length:Int)/\X.2.2.1.length=X.2.1.toNat) (λX=>(l.length-X.2.1.toNat)) ?_ n _ ⟨rfl,qEe _,by simp only;omega,rfl⟩ (by simp only;omega);rintro r ⟨l2,i,row,⟨⟩⟩ ⟨e1,i0,i1,hl⟩ hr;simp only at e1 i0 i1 hl hr;subst e1;unfold Vt;simp only;refine Ans.br (λhlt=>?_) (λ_=>Ans.some trivial);have hlt:=jZ hlt;have hil:i.toNat<l2.length:=by omega
 have hw:qEq .i64 (i+1)=i+1:=bD (by omega) (by omega);obtain⟨p,hp⟩:zIo (aM (Ty.dflt aT) l2 i):=by rw[zIt hil];exact h3 _ (wU hil)
 refine Ans.chk (bI i0 (by omega)) ?_;rw[hp,yCu (by omega),aK,zZs (by omega),aK];refine Ans.chk (qFr (by simp only[qFl,room];omega)) ?_;rw[hw];exact hr _ ⟨rfl,by simp only;omega,by simp only;omega,by simp only[xG,qFl];omega⟩ (by simp only;omega)
theorem xAf{l:List Oz}(hn:20000<=n)(h2:l.length<=9000):Ans (Js n l) λ_=>True:=by
 unfold Js;simp only;refine Ans.loop (λX:List Oz × Int × List Oz × Unit=>X.1=l/\0<=X.2.1/\X.2.1<=(l.length:Int)/\X.2.2.1.length=X.2.1.toNat) (λX=>(l.length-X.2.1.toNat)) ?_ n _ ⟨rfl,qEe _,by simp only;omega,rfl⟩ (by simp only;omega);rintro r ⟨l2,i,row,⟨⟩⟩ ⟨e1,i0,i1,hl⟩ hr;simp only at e1 i0 i1 hl hr;subst e1;unfold Vu;simp only;refine Ans.br (λhlt=>?_) (λ_=>Ans.some trivial);have hlt:=jZ hlt;have hil:i.toNat<l2.length:=by omega
 have hw:qEq .i64 (i+1)=i+1:=bD (by omega) (by omega);refine Ans.chk (bI i0 (by omega)) (Ans.chk (qFr (by simp only[qFl,room];omega)) ?_);rw[hw];exact hr _ ⟨rfl,by simp only;omega,by simp only;omega,by simp only[xG,qFl];omega⟩ (by simp only;omega)
def ot (c:Sc1):Int×List UInt8:=(c.2.1,c.2.2.1)
theorem xIk{x:Bool × pt2}(hn:20000<=n)(h:Sq x):Ans (Tn n x) λy=>y.2.2.1.map ot=x.2.2.1.map ot:=by
 obtain⟨q,P,C,⟨⟩⟩:=x;obtain⟨h1,h2,h3,h4⟩:=h;simp only at h1 h2 h3 h4;unfold Tn;simp only;refine Ans.loop (λX:pt3=>∃ (i:Int) (r8 r10:List (List NdT × Bool × Unit)) (r9:List Sc1) (b c:Bool),X=(i,q,P,C,b,c,r8,r9,r10,[],())/\0<=i/\i<=(P.length:Int)/\r10.length=i.toNat) (λX=>(P.length-X.1.toNat)) ?_ n _ ⟨_,_,_,_,_,_,rfl,qEe _,by omega,rfl⟩ (by simp only;omega);rintro r X ⟨i,r8,r10,r9,b,c,rfl,i0,i1,hl⟩ hr;simp only at hr;unfold zCg;simp only;refine Ans.br (λhlt=>?_) (λ_=>?_)
 ·have hlt:=jZ hlt;have hil:i.toNat<P.length:=by omega
  have hw:qEq .i64 (i+1)=i+1:=bD (by omega) (by omega);have hp:zIp (aM (Ty.dflt aU) P i).1:=by rw[zIt hil];exact h1 _ (wU hil)
  refine Ans.chk (bI i0 (by omega)) (Ans.ob _ (xAe hn hp) λy _=>Ans.chk (bI i0 (by omega)) (Ans.chk (qFr (by simp only[qFl,room];omega)) ?_));rw[hw];exact hr _ ⟨_,_,_,_,_,_,rfl,by omega,by omega,by simp only[xG,qFl];omega⟩ (by simp only;omega)
 ·refine Ans.loop (λX:pt3=>∃ (i:Int) (R:List Sc1),X=(i,q,P,C,b,c,r8,r9,r10,R,())/\0<=i/\i<=(C.length:Int)/\R.map ot=(C.take i.toNat).map ot) (λX=>(C.length-X.1.toNat)) ?_ n _ ⟨_,_,rfl,qEe _,by omega,by simp⟩ (by simp only;omega);rintro r X ⟨i,R,rfl,i0,i1,hl⟩ hr;simp only at hr;unfold zCf;simp only;refine Ans.br (λhlt=>?_) (λhge=>?_)
  ·have hlt:=jZ hlt;have hil:i.toNat<C.length:=by omega
   have hw:qEq .i64 (i+1)=i+1:=bD (by omega) (by omega);have hj:(i+1).toNat=i.toNat+1:=by omega
   have hR:R.length<=4000:=by have:=congrArg qGo hl;simp only[qFs,qAb]at this;omega
   refine Ans.chk (bI i0 (by omega)) ?_;rw[zIt hil];have hc:=(h4 _ (wU hil)).2;have he:(C.take (i+1).toNat).map ot=(C.take i.toNat).map ot++[ot C[i.toNat]]:=by rw[hj,qGm hil,qGu];rfl
   generalize C[i.toNat]=v at hc he;unfold Tm;simp only[aK];refine Ans.ob _ (xAf hn hc) λy _=>Ans.chk (qFr (by simp only[qFl,room];omega)) ?_
   rw[hw];refine hr _ ⟨_,_,rfl,by omega,by omega,?_⟩ (by simp only;omega);rw[he,qGu,hl];rfl
  ·have hge:=Am hge;refine Ans.some ?_;simp only;rw[hl,zH (by omega)]
theorem yVj{x:pt1}(hn:20000<=n)(h:Sq x.1):Ans (Fq n x) λy=>y.2=x.2/\y.1.2.2.1.map ot=x.1.2.2.1.map ot:=by
 unfold Fq;exact Ans.ob _ (xIk hn h) λy hy=>Ans.some ⟨rfl,hy⟩
end Go.Dec
namespace Go.Dec
variable {n:Nat}
theorem tF{α:Type}{d:α}{s:List α}{i:Int}(h:i.toNat<s.length):aM d s i=s[i.toNat]:=by
 simp[aM,wG,h]
abbrev IxX:Type:=List (List UInt8) × List UInt8 × Int × Int × Unit
theorem xAg(s:List (List UInt8))(v:List UInt8)(hn:s.length<n)(hm:s.length<1000000):Ans (rD n (s,v)) λy=>decide (y≥0)=s.contains v:=by
 unfold rD;simp only;refine Ans.loop (λX:IxX=>X.1=s/\X.2.1=v/\X.2.2.1=(s.length:Int)/\0<=X.2.2.2.1/\X.2.2.2.1<=(s.length:Int)/\v∉s.take X.2.2.2.1.toNat) (λX=>(X.2.2.1-X.2.2.2.1).toNat) ?_ n _ ⟨rfl,rfl,rfl,qEe _,by simp only;omega,by simp⟩ (by simp only;omega);rintro r ⟨l,w,t,i,⟨⟩⟩ ⟨e1,e2,e3,h0,h1,hv⟩ hr;simp only at e1 e2 e3 h0 h1 hv hr;subst e1 e2 e3;unfold Em;simp only;refine Ans.br (λhlt=>?_) (λhge=>?_)
 ·have hlt:=jZ hlt;have hil:i.toNat<l.length:=by omega
  refine Ans.chk (bI h0 (by omega)) ?_;rw[tF hil];refine Ans.br (λhe=>Ans.some ?_) (λhne=>?_)
  ·have he:w=l[i.toNat]:=eq_of_beq he;rw[decide_eq_true (by omega),he];simp
  ·have hw:qEq .i64 (i+1)=i+1:=bD (by omega) (by omega);have hj:(i+1).toNat=i.toNat+1:=by omega
   refine hr _ ⟨rfl,rfl,rfl,by rw[hw];simp only;omega,by rw[hw];simp only;omega,?_⟩ (by rw[hw];simp only;omega);rw[hw];simp only;rw[hj,qGm hil,qAp];rintro(h|h)
   ·exact hv h
   ·have h:=qCp.1 h;rw[h]at hne;simp at hne
 ·have hge:=Am hge;refine Ans.some ?_;rw[zH (by omega)]at hv;rw[show l.contains w=false by simpa using hv];rfl
def comm (a b:List (List UInt8)):Bool:=a.any b.contains
theorem zIu{a b:List (List UInt8)}:comm a b=true<->∃ x,x∈a/\x∈b:=by simp[comm]
theorem zTq(a b c:List (List UInt8)):comm (a++b) c=(comm a c||comm b c):=by simp[comm]
theorem xKa(v:List UInt8)(b:List (List UInt8))(hn:b.length<n)(hm:b.length<1000000):pR n (v,b,())=some (b.contains v,b,()):=by
 obtain⟨y,hy,h⟩:=xAg b v hn hm;unfold pR sF;simp only;rw[hy,aK,aK,h]
abbrev CmX:Type:=List (List UInt8) × Int × Int × List (List UInt8) × Unit
theorem yBt(a b:List (List UInt8))(ha:a.length<n)(hb:b.length<n)(hm:b.length<1000000)(hm2:a.length<1000000):oG n (a,b)=some (comm a b):=by
 have key:Ans (dR n (a,b,())) λy=>decide (y.1≥0)=comm a b:=by
  unfold dR;simp only;refine Ans.loop (λX:CmX=>X.1=a/\X.2.1=(a.length:Int)/\0<=X.2.2.1/\X.2.2.1<=(a.length:Int)/\X.2.2.2.1=b/\comm (a.take X.2.2.1.toNat) b=false) (λX=>(X.2.1-X.2.2.1).toNat) ?_ n _ ⟨rfl,rfl,qEe _,by simp only;omega,rfl,by simp[comm]⟩ (by simp only;omega);rintro r ⟨l,t,i,c,⟨⟩⟩ ⟨e1,e2,h0,h1,e3,hv⟩ hr;simp only at e1 e2 e3 h0 h1 hv hr;subst e1 e2 e3;unfold kJ;simp only;refine Ans.br (λhlt=>?_) (λhge=>?_)
  ·have hlt:=jZ hlt;have hil:i.toNat<l.length:=by omega
   refine Ans.chk (bI h0 (by omega)) ?_;rw[tF hil,xKa _ _ hb hm,aK];simp only;refine Ans.br (λhe=>Ans.some ?_) (λhne=>?_)
   ·rw[decide_eq_true (by simp only;omega)];exact(zIu.2 ⟨l[i.toNat],wU hil,by simpa using he⟩).symm
   ·have hw:qEq .i64 (i+1)=i+1:=bD (by omega) (by omega);have hj:(i+1).toNat=i.toNat+1:=by omega
    refine hr _ ⟨rfl,rfl,by rw[hw];simp only;omega,by rw[hw];simp only;omega,rfl,?_⟩ (by rw[hw];simp only;omega);rw[hw];simp only;rw[hj,qGm hil,zTq,hv];simpa [comm]using hne
  ·have hge:=Am hge;refine Ans.some ?_;rw[zH (by omega)]at hv;rw[hv];rfl
 obtain⟨y,hy,h⟩:=key;unfold oG eY;simp only;rw[hy,aK,aK,h]
def yDq (p q:List (List UInt8)×List (List UInt8)):Bool:=comm (p.1++p.2) q.2||comm p.2 q.1
theorem xAh{x y:aO.den}{p q:List (List UInt8) × List (List UInt8)}(hx:jB n x=some p)(hy:jB n y=some q)(hp:xAd x p)(hq:xAd y q)(hn:20000<=n):lV n (x,y)=some (yDq p q):=by
 obtain⟨p1,p2,_⟩:=hp;obtain⟨q1,q2,_⟩:=hq;unfold lV kI;simp only;rw[hx,aK,hy,aK,show qBg (p.1.length+p.2.length) 1000000=true from qFr (by omega),Ce,aK,yBt _ _ (by rw[xG];omega) (by omega) (by omega) (by rw[xG];omega),aK,yBt _ _ (by omega) (by omega) (by omega) (by omega),aK];unfold yDq;cases comm (p.1++p.2) q.2<;>rfl
def xKb (t:pm2) (s:pm0):Prop:=Sq s.1 ∧ s.2 = (false,t.2.1,t.2.2) ∧ t.2.1.length<=5
end Go.Dec
