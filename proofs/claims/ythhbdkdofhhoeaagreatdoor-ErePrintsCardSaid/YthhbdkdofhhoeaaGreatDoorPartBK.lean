/- Part of a proof over this seat: a library of my own, and what it says of this seat. No statement is proved here. -/
import Derived.Test.YthhbdkdofhhoeaaGreatDoorPartBI
import Derived.Test.YthhbdkdofhhoeaaGreatDoorPartBJ
namespace Go.Dec
def Pt.kind:Pt->Int | .empty=>0 | .bytes _=>1 | .bol=>2 | .eol=>3 | .cat _ _=>4 | .alt _ _=>5 | .times _ _ _=>6 | .group _ _=>7 | .ref _=>8
inductive NV where
 |empty|bol|eol
 |bytes (p:Nat->Bool)
 |cat (a b:Int)|alt (a b:Int)
 |times (a lo hi:Int)
 |group (a:Int) (m:Nat)
 |ref (m:Nat)
def NV.node:NV->Nd | .empty=>(0,[0,0,0,0],0,0,0,0,0,()) | .bytes p=>(1,wd p,0,0,0,0,0,()) | .bol=>(2,[0,0,0,0],0,0,0,0,0,()) | .eol=>(3,[0,0,0,0],0,0,0,0,0,()) | .cat a b=>(4,[0,0,0,0],a,b,0,0,0,()) | .alt a b=>(5,[0,0,0,0],a,b,0,0,0,()) | .times a lo hi=>(6,[0,0,0,0],a,0,lo,hi,0,()) | .group a m=>(7,[0,0,0,0],a,0,0,0,(m:Int),()) | .ref m=>(8,[0,0,0,0],0,0,0,0,(m:Int),())
def iA (lo hi:Int):Bool:=decide (0<=lo)&&decide (lo<=255)&&(decide (hi = -1)||(decide (lo<=hi)&&decide (1<=hi)&&decide (hi<=255)))
def NV.ok:NV->Bool | .bytes p=>!gM p | .times _ lo hi=>iA lo hi | .group _ m=>decide (1<=m)&&decide (m<=9) | .ref m=>decide (1<=m)&&decide (m<=9) | _=>true
def Qf (nd:Nd):Prop := ∃ p,nd.2.1 = wd p
theorem yGd{x y:Nd}(h:x=y):Ty.beq aD x y=true:=(@beq_iff aD rfl x y).2 h
theorem yGe{x y:Nd}(h:¬ x=y):Ty.beq aD x y=false:=beq_false (t:=aD) rfl h
def zEh (nd:Nd) (e:Option Bool):Prop:=(e = some true ∧ ∃ v:NV,nd = v.node ∧ v.ok = true) ∨ (e = some false ∧ ∀ v:NV,nd = v.node->v.ok = false)
theorem zCs(v:NV):0<=v.node.1/\v.node.1<=8:=by cases v<;>simp[NV.node]
section
variable {n:Nat}{w:List Int}{a b lo hi m:Int}{u:Unit}
theorem plain0:dJ n (0,w,a,b,lo,hi,m,u)=some (0,[0,0,0,0],0,0,0,0,0,()):=by simp[dJ]
theorem yVd:dJ n (1,w,a,b,lo,hi,m,u)=some (1,w,0,0,0,0,0,()):=by simp[dJ]
theorem yVe:dJ n (2,w,a,b,lo,hi,m,u)=some (2,[0,0,0,0],0,0,0,0,0,()):=by simp[dJ]
theorem yVf:dJ n (3,w,a,b,lo,hi,m,u)=some (3,[0,0,0,0],0,0,0,0,0,()):=by simp[dJ]
theorem yVg:dJ n (4,w,a,b,lo,hi,m,u)=some (4,[0,0,0,0],a,b,0,0,0,()):=by simp[dJ]
theorem yVh:dJ n (5,w,a,b,lo,hi,m,u)=some (5,[0,0,0,0],a,b,0,0,0,()):=by simp[dJ]
theorem yVi:dJ n (6,w,a,b,lo,hi,m,u)=some (6,[0,0,0,0],a,0,lo,hi,0,()):=by simp[dJ]
theorem yVj:dJ n (7,w,a,b,lo,hi,m,u)=some (7,[0,0,0,0],a,0,0,0,m,u):=by simp[dJ]
theorem plain8:dJ n (8,w,a,b,lo,hi,m,u)=some (8,[0,0,0,0],0,0,0,0,m,u):=by simp[dJ]
end
theorem zXx{n:Nat}{nd:Nd}(hw:Qf nd):zEh nd (tQ n nd):=by
 obtain⟨k,w,a,b,lo,hi,m,u⟩:=nd;obtain⟨p,hp⟩:=hw;simp only at hp;subst hp;unfold tQ;simp only;by_cases h0:k<0
 ·rw[aI (by simp;omega)];exact Or.inr ⟨rfl,λv hv=>by have:=zCs v;rw[<- hv]at this;omega⟩
 rw[aC (by simp;omega)];by_cases h8:k>8
 ·rw[aI (by simp;omega)];exact Or.inr ⟨rfl,λv hv=>by have:=zCs v;rw[<- hv]at this;omega⟩
 rw[aC (by simp;omega)];have hcase:k=0\/k=1\/k=2\/k=3\/k=4\/k=5\/k=6\/k=7\/k=8:=by omega
 have hbad:∀ {nd':Nd}{X:Option Bool},(∀ v:NV,(k,wd p,a,b,lo,hi,m,u)=v.node->(k,wd p,a,b,lo,hi,m,u)=nd')->¬ (k,wd p,a,b,lo,hi,m,u)=nd'->zEh (k,wd p,a,b,lo,hi,m,u) (br (!(Ty.beq aD (k,wd p,a,b,lo,hi,m,u) nd')) (some false) X):=by
  intro nd' X h1 h2;rw[yGe h2];exact Or.inr ⟨rfl,λv hv=>absurd (h1 v hv) h2⟩
 have hgood:∀ {nd':Nd}{X:Option Bool},(k,wd p,a,b,lo,hi,m,u)=nd'->(br (!(Ty.beq aD (k,wd p,a,b,lo,hi,m,u) nd')) (some false) X)=X:=by
  intro nd' X h;rw[yGd h];rfl
 have hng:∀ {m:Int}(v:NV),1<=m->∃ m':Nat,m=(m':Int):=λ{m} _ h=>⟨m.toNat,by omega⟩
 rcases hcase with rfl|rfl|rfl|rfl|rfl|rfl|rfl|rfl|rfl
 ·rw[plain0,aK];by_cases h:((0:Int),wd p,a,b,lo,hi,m,u)=((0,[0,0,0,0],0,0,0,0,0,()):Nd)
  ·rw[hgood h];exact Or.inl ⟨rfl,.empty,h,rfl⟩
  ·exact hbad (λv hv=>by rw[hv];cases v<;>simp[NV.node]at hv ⊢) h
 ·rw[yVd,aK];by_cases h:((1:Int),wd p,a,b,lo,hi,m,u)=((1,wd p,0,0,0,0,0,()):Nd)
  ·rw[hgood h];rw[aI (by rfl)];rw[qB];cases he:gM p
   ·exact Or.inl ⟨rfl,.bytes p,h,by simp[NV.ok,he]⟩
   ·refine Or.inr ⟨rfl,λv hv=>?_⟩;have e1:=congrArg (λx:Nd=>x.2.1) hv;have e0:=congrArg (λx:Nd=>x.1) hv;cases v<;>simp[NV.node]at e0 e1
    simp only[NV.ok];rw[<- qB,<- e1,qB,he];rfl
  ·exact hbad (λv hv=>by rw[hv];cases v<;>simp[NV.node]at hv ⊢;exact hv.1.symm) h
 ·rw[yVe,aK];by_cases h:((2:Int),wd p,a,b,lo,hi,m,u)=((2,[0,0,0,0],0,0,0,0,0,()):Nd)
  ·rw[hgood h];exact Or.inl ⟨rfl,.bol,h,rfl⟩
  ·exact hbad (λv hv=>by rw[hv];cases v<;>simp[NV.node]at hv ⊢) h
 ·rw[yVf,aK];by_cases h:((3:Int),wd p,a,b,lo,hi,m,u)=((3,[0,0,0,0],0,0,0,0,0,()):Nd)
  ·rw[hgood h];exact Or.inl ⟨rfl,.eol,h,rfl⟩
  ·exact hbad (λv hv=>by rw[hv];cases v<;>simp[NV.node]at hv ⊢) h
 ·rw[yVg,aK];by_cases h:((4:Int),wd p,a,b,lo,hi,m,u)=((4,[0,0,0,0],a,b,0,0,0,()):Nd)
  ·rw[hgood h];exact Or.inl ⟨rfl,.cat a b,h,rfl⟩
  ·exact hbad (λv hv=>by rw[hv];cases v<;>simp[NV.node]at hv ⊢;exact⟨hv.2.1.symm,hv.2.2.1.symm⟩) h
 ·rw[yVh,aK];by_cases h:((5:Int),wd p,a,b,lo,hi,m,u)=((5,[0,0,0,0],a,b,0,0,0,()):Nd)
  ·rw[hgood h];exact Or.inl ⟨rfl,.alt a b,h,rfl⟩
  ·exact hbad (λv hv=>by rw[hv];cases v<;>simp[NV.node]at hv ⊢;exact⟨hv.2.1.symm,hv.2.2.1.symm⟩) h
 ·rw[yVi,aK];by_cases h:((6:Int),wd p,a,b,lo,hi,m,u)=((6,[0,0,0,0],a,0,lo,hi,0,()):Nd)
  ·rw[hgood h];rw[aC (by rfl),aI (by rfl)];have e:(br (decide (lo≥0)) (br (decide (lo<=255)) (br (hi==-1) (some true) (br (decide (hi≥if 1>lo then 1 else lo)) (some (decide (hi<=255))) (some false))) (some false)) (some false))=some (iA lo hi):=by
    unfold iA;by_cases g1:0<=lo
    ·rw[aI (by simp;omega),decide_eq_true g1];by_cases g2:lo<=255
     ·rw[aI (by simp;omega),decide_eq_true g2];by_cases g3:hi=-1
      ·subst g3;rfl
      ·rw[aC (by simp;omega),decide_eq_false g3];by_cases g4:lo<=hi
       ·by_cases g5:1<=hi
        ·rw[aI (by simp;split<;>omega),decide_eq_true g4,decide_eq_true g5];rfl
        ·rw[aC (by simp;split<;>omega),decide_eq_false g5,decide_eq_true g4];rfl
       ·rw[aC (by simp;split<;>omega),decide_eq_false g4];rfl
     ·rw[aC (by simp;omega),decide_eq_false g2,Bool.and_false,Bool.false_and]
    ·rw[aC (by simp;omega),decide_eq_false g1];rfl
   rw[e];cases ht:iA lo hi
   ·refine Or.inr ⟨rfl,λv hv=>?_⟩;have e1:=congrArg (λx:Nd=>x.2.2.2.2.1) hv;have e2:=congrArg (λx:Nd=>x.2.2.2.2.2.1) hv;have e0:=congrArg (λx:Nd=>x.1) hv;cases v<;>simp[NV.node]at e0 e1 e2
    simp only[NV.ok];rw[<- e1,<- e2];exact ht
   ·exact Or.inl ⟨rfl,.times a lo hi,h,ht⟩
  ·exact hbad (λv hv=>by rw[hv];cases v<;>simp[NV.node]at hv ⊢;exact⟨hv.2.1.symm,hv.2.2.2.1.symm,hv.2.2.2.2.1.symm⟩) h
 ·rw[yVj,aK];by_cases h:((7:Int),wd p,a,b,lo,hi,m,u)=((7,[0,0,0,0],a,0,0,0,m,u):Nd)
  ·rw[hgood h];rw[aC (by rfl),aC (by rfl),aI (by rfl),aI (by rfl)];by_cases g1:1<=m
   ·rw[aI (by simp;omega)];by_cases g2:m<=9
    ·obtain⟨m',rfl⟩:∃ m':Nat,m=(m':Int):=⟨m.toNat,by omega⟩;rw[decide_eq_true g2];exact Or.inl ⟨rfl,.group a m',h,by simp[NV.ok];omega⟩
    ·rw[decide_eq_false g2];refine Or.inr ⟨rfl,λv hv=>?_⟩;have e1:=congrArg (λx:Nd=>x.2.2.2.2.2.2.1) hv;have e0:=congrArg (λx:Nd=>x.1) hv;cases v<;>simp[NV.node]at e0 e1
     simp[NV.ok];omega
   ·rw[aC (by simp;omega)];refine Or.inr ⟨rfl,λv hv=>?_⟩;have e1:=congrArg (λx:Nd=>x.2.2.2.2.2.2.1) hv;have e0:=congrArg (λx:Nd=>x.1) hv;cases v<;>simp[NV.node]at e0 e1
    simp[NV.ok];omega
  ·exact hbad (λv hv=>by rw[hv];cases v<;>simp[NV.node]at hv ⊢;exact⟨hv.2.1.symm,hv.2.2.2.2.2.symm⟩) h
 ·rw[plain8,aK];by_cases h:((8:Int),wd p,a,b,lo,hi,m,u)=((8,[0,0,0,0],0,0,0,0,m,u):Nd)
  ·rw[hgood h];rw[aC (by rfl),aC (by rfl),aC (by rfl),aI (by rfl)];by_cases g1:1<=m
   ·rw[aI (by simp;omega)];by_cases g2:m<=9
    ·obtain⟨m',rfl⟩:∃ m':Nat,m=(m':Int):=⟨m.toNat,by omega⟩;rw[decide_eq_true g2];exact Or.inl ⟨rfl,.ref m',h,by simp[NV.ok];omega⟩
    ·rw[decide_eq_false g2];refine Or.inr ⟨rfl,λv hv=>?_⟩;have e1:=congrArg (λx:Nd=>x.2.2.2.2.2.2.1) hv;have e0:=congrArg (λx:Nd=>x.1) hv;cases v<;>simp[NV.node]at e0 e1
     simp[NV.ok];omega
   ·rw[aC (by simp;omega)];refine Or.inr ⟨rfl,λv hv=>?_⟩;have e1:=congrArg (λx:Nd=>x.2.2.2.2.2.2.1) hv;have e0:=congrArg (λx:Nd=>x.1) hv;cases v<;>simp[NV.node]at e0 e1
    simp[NV.ok];omega
  ·exact hbad (λv hv=>by rw[hv];cases v<;>simp[NV.node]at hv ⊢;exact hv.2.2.2.2.2.symm) h
end Go.Dec
namespace Go.Dec
def Pt.nv (o:Nat):Pt->NV | .empty => .empty | .bytes p => .bytes p | .bol => .bol | .eol => .eol | .cat a b => .cat (a.top o) (b.top (o+a.sz)) | .alt a b => .alt (a.top o) (b.top (o+a.sz)) | .times a lo hi => .times (a.top o) lo hi | .group a m => .group (a.top o) m | .ref m => .ref m
def Pt.yNp (o:Nat):Pt->List Nd | .cat a b=>a.enc o++b.enc (o+a.sz) | .alt a b=>a.enc o++b.enc (o+a.sz) | .times a _ _=>a.enc o | .group a _=>a.enc o | _=>[]
theorem Pt.zRa(o:Nat)(t:Pt):t.enc o=t.yNp o++[(t.nv o).node]:=by
 cases t<;>rfl
theorem Pt.yNq(o:Nat)(t:Pt):(t.yNp o).length+1=t.sz:=by
 have:=t.bX o;rw[t.zRa]at this;simpa using this
theorem Pt.zR(o:Nat)(t:Pt):(t.nv o).node.1=t.kind:=by cases t<;>rfl
def At (l:List Nd) (o:Nat) (t:Pt):Prop := ∃ pre post,l = pre++t.enc o++post ∧ pre.length = o
theorem At.node{l:List Nd}{o:Nat}{t:Pt}(h:At l o t):l[o+t.sz-1]?=some (t.nv o).node:=by
 obtain⟨pre,post,rfl,hp⟩:=h;have hb:=t.yNq o;rw[t.zRa,<- List.append_assoc,List.append_assoc,List.getElem?_append_right (by rw[List.length_append];omega)];rw[List.length_append,show o+t.sz-1-(pre.length+(t.yNp o).length)=0 by omega];rfl
theorem At.len{l:List Nd}{o:Nat}{t:Pt}(h:At l o t):o+t.sz<=l.length:=by
 obtain⟨pre,post,rfl,hp⟩:=h;simp only[List.length_append,Pt.bX];omega
theorem At.top{l:List Nd}{o:Nat}{t:Pt}(h:At l o t):inB (t.top o) l.length=true/\∀ d,aR d l (t.top o)=(t.nv o).node:=by
 have h1:=h.node;have h2:=h.len;have h3:=t.dN;have e:t.top o=((o+t.sz-1:Nat):Int):=by unfold Pt.top;omega
 rw[e];refine⟨fQ (by omega),λd=>?_⟩;rw[gX (by omega)];rw[List.getElem?_eq_getElem (by omega)]at h1;exact Option.some.inj h1
theorem At.Lg{l:List Nd}{o:Nat}{a b:Pt}(h:At l o (.cat a b)):At l o a/\At l (o+a.sz) b:=by
 obtain⟨pre,post,rfl,hp⟩:=h;exact⟨⟨pre,b.enc (o+a.sz)++([(Pt.nv o (.cat a b)).node]++post),by simp[Pt.enc,Pt.nv,NV.node],hp⟩,⟨pre++a.enc o,[(Pt.nv o (.cat a b)).node]++post,by simp[Pt.enc,Pt.nv,NV.node],by rw[List.length_append,Pt.bX,hp]⟩⟩
theorem At.alt1{l:List Nd}{o:Nat}{a b:Pt}(h:At l o (.alt a b)):At l o a/\At l (o+a.sz) b:=by
 obtain⟨pre,post,rfl,hp⟩:=h;exact⟨⟨pre,b.enc (o+a.sz)++([(Pt.nv o (.alt a b)).node]++post),by simp[Pt.enc,Pt.nv,NV.node],hp⟩,⟨pre++a.enc o,[(Pt.nv o (.alt a b)).node]++post,by simp[Pt.enc,Pt.nv,NV.node],by rw[List.length_append,Pt.bX,hp]⟩⟩
theorem At.Va{l:List Nd}{o:Nat}{a:Pt}{lo hi:Int}(h:At l o (.times a lo hi)):At l o a:=by
 obtain⟨pre,post,rfl,hp⟩:=h;exact⟨pre,[(Pt.nv o (.times a lo hi)).node]++post,by simp[Pt.enc,Pt.nv,NV.node],hp⟩
theorem At.Vb{l:List Nd}{o:Nat}{a:Pt}{m:Nat}(h:At l o (.group a m)):At l o a:=by
 obtain⟨pre,post,rfl,hp⟩:=h;exact⟨pre,[(Pt.nv o (.group a m)).node]++post,by simp[Pt.enc,Pt.nv,NV.node],hp⟩
theorem At.self(t:Pt):At (t.enc 0) 0 t:=⟨[],[],by simp,rfl⟩
def bY:Pt->Bool | .bytes p=>!gM p | .cat a b=>bY a&&bY b | .alt a b=>bY a&&bY b | .times a lo hi=>bY a&&iA lo hi | .group a m=>bY a&&(decide (1<=m)&&decide (m<=9)) | .ref m=>decide (1<=m)&&decide (m<=9) | _=>true
def eO:Pt->Bool | .cat a b=>eO a&&eO b&&(decide (a.kind ≠ 4)&&decide (a.kind ≠ 5)&&decide (b.kind ≠ 5)) | .alt a b=>eO a&&eO b&&decide (a.kind ≠ 5) | .times a _ _=>eO a&&(decide (a.kind = 1)||decide (a.kind = 7)||decide (a.kind = 8)) | .group a _=>eO a | _=>true
def iL:Pt->Bool | .empty=>false | .cat a b=>iL a&&iL b | .alt a b=>iL a&&iL b | .times a _ _=>iL a | .group a _=>iL a | _=>true
def encR:List Pt->List Nd | []=>[] | t :: st=>encR st++t.enc (szA st)
def iO:List Pt->List Int | []=>[] | t :: st=>iO st++[t.top (szA st)]
theorem Il:∀ st:List Pt,(encR st).length=szA st
 |[]=>rfl
 |t::st=>by simp only[encR,szA,List.length_append,Il st,Pt.bX];omega
theorem qX:∀ st:List Pt,(iO st).length=st.length
 |[]=>rfl
 |t::st=>by simp only[iO,List.length_append,qX st,List.length_cons,List.length_nil]
def kK(len:Nat)(st:List Pt)(v:NV):Option (List Pt):=
 match v with
 |.empty=>if len>1 then none else some (.empty::st)
 |.bytes p=>some (.bytes p::st)
 |.bol=>some (.bol::st)
 |.eol=>some (.eol::st)
 |.ref m=>some (.ref m::st)
 |.cat x y=>match st with
  |b::a::st'=>if a.top (szA st')=x/\b.top (szA st'+a.sz)=y/\a.kind≠4/\a.kind≠5/\b.kind≠5 then some (.cat a b::st')else none
  |_=>none
 |.alt x y=>match st with
  |b::a::st'=>if a.top (szA st')=x/\b.top (szA st'+a.sz)=y/\a.kind≠5 then some (.alt a b::st')else none
  |_=>none
 |.times x lo hi=>match st with
  |a::st'=>if a.top (szA st')=x/\(a.kind=1\/a.kind=7\/a.kind=8)then some (.times a lo hi::st')else none
  |_=>none
 |.group x m=>match st with
  |a::st'=>if a.top (szA st')=x then some (.group a m::st')else none
  |_=>none
theorem Im(st:List Pt)(a:Pt):szA (a::st)=szA st+a.sz:=by simp only[szA];omega
theorem Rp{len:Nat}{st st2:List Pt}{v:NV}(h:kK len st v=some st2):encR st2=encR st++[v.node]:=by
 unfold kK at h;cases v<;>simp only at h
 case empty=>split at h<;>simp at h;subst h;rfl
 case bytes p=>simp at h;subst h;rfl
 case bol=>simp at h;subst h;rfl
 case eol=>simp at h;subst h;rfl
 case ref m=>simp at h;subst h;rfl
 case cat x y =>
  match st,h with
  |[],h=>simp at h
  |[_],h=>simp at h
  |b::a::st',h =>
   simp only at h;split at h<;>simp at h
   rename_i hc;subst h;simp only[encR,Pt.enc,Im,List.append_assoc,NV.node,hc.1,hc.2.1]
 case alt x y =>
  match st,h with
  |[],h=>simp at h
  |[_],h=>simp at h
  |b::a::st',h =>
   simp only at h;split at h<;>simp at h
   rename_i hc;subst h;simp only[encR,Pt.enc,Im,List.append_assoc,NV.node,hc.1,hc.2.1]
 case times x lo hi =>
  match st,h with
  |[],h=>simp at h
  |a::st',h =>
   simp only at h;split at h<;>simp at h
   rename_i hc;subst h;simp only[encR,Pt.enc,List.append_assoc,NV.node,hc.1]
 case group x m =>
  match st,h with
  |[],h=>simp at h
  |a::st',h =>
   simp only at h;split at h<;>simp at h
   rename_i hc;subst h;simp only[encR,Pt.enc,List.append_assoc,NV.node,hc]
def Gj (len:Nat) (t:Pt):Prop:=bY t = true ∧ eO t = true ∧ (len > 1->iL t = true)
theorem yNr{len:Nat}{st st2:List Pt}{v:NV}(hv:v.ok=true)(hst:∀ t∈st,Gj len t)(h:kK len st v=some st2):∀ t∈st2,Gj len t:=by
 unfold kK at h;cases v<;>simp only at h
 case empty =>
  split at h<;>simp at h;subst h
  rename_i hl;intro t ht;rcases List.mem_cons.1 ht with rfl|ht
  ·exact⟨rfl,rfl,λh=>absurd h hl⟩
  ·exact hst t ht
 case bytes p=>simp at h;subst h;intro t ht;rcases List.mem_cons.1 ht with rfl|ht;exact⟨hv,rfl,λ_=>rfl⟩;exact hst t ht
 case bol=>simp at h;subst h;intro t ht;rcases List.mem_cons.1 ht with rfl|ht;exact⟨rfl,rfl,λ_=>rfl⟩;exact hst t ht
 case eol=>simp at h;subst h;intro t ht;rcases List.mem_cons.1 ht with rfl|ht;exact⟨rfl,rfl,λ_=>rfl⟩;exact hst t ht
 case ref m=>simp at h;subst h;intro t ht;rcases List.mem_cons.1 ht with rfl|ht;exact⟨hv,rfl,λ_=>rfl⟩;exact hst t ht
 case cat x y =>
  match st,h with
  |[],h=>simp at h
  |[_],h=>simp at h
  |b::a::st',h =>
   simp only at h;split at h<;>simp at h
   rename_i hc;subst h;intro t ht;have ha:=hst a (by simp);have hb:=hst b (by simp);rcases List.mem_cons.1 ht with rfl|ht
   ·exact⟨by simp[bY,ha.1,hb.1],by simp[eO,ha.2.1,hb.2.1,hc.2.2.1,hc.2.2.2.1,hc.2.2.2.2],λhl=>by simp[iL,ha.2.2 hl,hb.2.2 hl]⟩
   ·exact hst t (by simp[ht])
 case alt x y =>
  match st,h with
  |[],h=>simp at h
  |[_],h=>simp at h
  |b::a::st',h =>
   simp only at h;split at h<;>simp at h
   rename_i hc;subst h;intro t ht;have ha:=hst a (by simp);have hb:=hst b (by simp);rcases List.mem_cons.1 ht with rfl|ht
   ·exact⟨by simp[bY,ha.1,hb.1],by simp[eO,ha.2.1,hb.2.1,hc.2.2],λhl=>by simp[iL,ha.2.2 hl,hb.2.2 hl]⟩
   ·exact hst t (by simp[ht])
 case times x lo hi =>
  match st,h with
  |[],h=>simp at h
  |a::st',h =>
   simp only at h;split at h<;>simp at h
   rename_i hc;subst h;intro t ht;have ha:=hst a (by simp);rcases List.mem_cons.1 ht with rfl|ht
   ·refine⟨by simp only[bY,ha.1,Bool.true_and];exact hv,?_,λhl=>by simp[iL,ha.2.2 hl]⟩;simp only[eO,ha.2.1,Bool.true_and,Bool.or_eq_true,decide_eq_true_eq];rcases hc.2 with h|h|h
    ·exact Or.inl (Or.inl h)
    ·exact Or.inl (Or.inr h)
    ·exact Or.inr h
   ·exact hst t (by simp[ht])
 case group x m =>
  match st,h with
  |[],h=>simp at h
  |a::st',h =>
   simp only at h;split at h<;>simp at h
   rename_i hc;subst h;intro t ht;have ha:=hst a (by simp);rcases List.mem_cons.1 ht with rfl|ht
   ·exact⟨by simp only[bY,ha.1,Bool.true_and];exact hv,by simp[eO,ha.2.1],λhl=>by simp[iL,ha.2.2 hl]⟩
   ·exact hst t (by simp[ht])
def rM(len:Nat):List NV->List Pt->Option (List Pt)
 |[],st=>some st
 |v::vs,st=>match kK len st v with
  |none=>none
  |some st2=>rM len vs st2
theorem yS(len:Nat):∀ (a b:List NV) (st:List Pt),rM len (a++b) st=(rM len a st).bind (rM len b)
 |[],b,st=>rfl
 |v::a,b,st=>by
  simp only[List.cons_append,rM];cases kK len st v with
  |none=>rfl
  |some st2=>exact yS len a b st2
def Pt.nvs (o:Nat):Pt->List NV | .cat a b=>a.nvs o++b.nvs (o+a.sz)++[.cat (a.top o) (b.top (o+a.sz))] | .alt a b=>a.nvs o++b.nvs (o+a.sz)++[.alt (a.top o) (b.top (o+a.sz))] | .times a lo hi=>a.nvs o++[.times (a.top o) lo hi] | .group a m=>a.nvs o++[.group (a.top o) m] | .empty=>[.empty] | .bytes p=>[.bytes p] | .bol=>[.bol] | .eol=>[.eol] | .ref m=>[.ref m]
theorem zS:∀ (t:Pt) (o:Nat),(t.nvs o).map NV.node=t.enc o
 |.cat a b,o=>by simp[Pt.nvs,Pt.enc,zS a,zS b,NV.node]
 |.alt a b,o=>by simp[Pt.nvs,Pt.enc,zS a,zS b,NV.node]
 |.times a _ _,o=>by simp[Pt.nvs,Pt.enc,zS a,NV.node]
 |.group a _,o=>by simp[Pt.nvs,Pt.enc,zS a,NV.node]
 |.empty,_|.bytes _,_|.bol,_|.eol,_|.ref _,_=>rfl
theorem Kn:∀ (t:Pt) (o:Nat),bY t=true->∀ v∈t.nvs o,v.ok=true
 |.cat a b,o,h,v,hv=>by
  simp only[bY,aH]at h;simp only[Pt.nvs,List.mem_append,List.mem_singleton]at hv;rcases hv with (hv|hv)|rfl
  ·exact Kn a o h.1 v hv
  ·exact Kn b _ h.2 v hv
  ·rfl
 |.alt a b,o,h,v,hv=>by
  simp only[bY,aH]at h;simp only[Pt.nvs,List.mem_append,List.mem_singleton]at hv;rcases hv with (hv|hv)|rfl
  ·exact Kn a o h.1 v hv
  ·exact Kn b _ h.2 v hv
  ·rfl
 |.times a lo hi,o,h,v,hv=>by
  simp only[bY,aH]at h;simp only[Pt.nvs,List.mem_append,List.mem_singleton]at hv;rcases hv with hv|rfl
  ·exact Kn a o h.1 v hv
  ·exact h.2
 |.group a m,o,h,v,hv=>by
  simp only[bY,aH]at h;simp only[Pt.nvs,List.mem_append,List.mem_singleton]at hv;rcases hv with hv|rfl
  ·exact Kn a o h.1 v hv
  ·simp only[NV.ok,aH];exact h.2
 |.empty,_,h,v,hv=>by simp only[Pt.nvs,List.mem_singleton]at hv;subst hv;rfl
 |.bytes _,_,h,v,hv=>by simp only[Pt.nvs,List.mem_singleton]at hv;subst hv;exact h
 |.bol,_,h,v,hv=>by simp only[Pt.nvs,List.mem_singleton]at hv;subst hv;rfl
 |.eol,_,h,v,hv=>by simp only[Pt.nvs,List.mem_singleton]at hv;subst hv;rfl
 |.ref _,_,h,v,hv=>by simp only[Pt.nvs,List.mem_singleton]at hv;subst hv;exact h
theorem wG(len:Nat):∀ (t:Pt) (st:List Pt),eO t=true->(len>1->iL t=true)->rM len (t.nvs (szA st)) st=some (t::st)
 |.cat a b,st,h,hn=>by
  simp only[eO,aH,decide_eq_true_eq]at h;simp only[iL,aH]at hn;have ha:=wG len a st h.1.1 (λhl=>(hn hl).1);have hb:=wG len b (a::st) h.1.2 (λhl=>(hn hl).2);rw[Im]at hb;simp only[Pt.nvs];rw[yS,yS,ha];simp only[Option.bind_some];rw[hb];simp only[Option.bind_some,rM,kK];rw[if_pos (by refine⟨?_,?_,h.2.1.1,h.2.1.2,h.2.2⟩<;>first|trivial|rfl)]
 |.alt a b,st,h,hn=>by
  simp only[eO,aH,decide_eq_true_eq]at h;simp only[iL,aH]at hn;have ha:=wG len a st h.1.1 (λhl=>(hn hl).1);have hb:=wG len b (a::st) h.1.2 (λhl=>(hn hl).2);rw[Im]at hb;simp only[Pt.nvs];rw[yS,yS,ha];simp only[Option.bind_some];rw[hb];simp only[Option.bind_some,rM,kK];rw[if_pos (by refine⟨?_,?_,h.2⟩<;>first|trivial|rfl)]
 |.times a lo hi,st,h,hn=>by
  simp only[eO,aH,Bool.or_eq_true,decide_eq_true_eq]at h;simp only[iL]at hn;have ha:=wG len a st h.1 hn;simp only[Pt.nvs];rw[yS,ha];simp only[Option.bind_some,rM,kK];rw[if_pos (by refine⟨?_,by rcases h.2 with (h|h)|h;exact Or.inl h;exact Or.inr (Or.inl h);exact Or.inr (Or.inr h)⟩;first|trivial|rfl)]
 |.group a m,st,h,hn=>by
  simp only[eO]at h;simp only[iL]at hn;have ha:=wG len a st h hn;simp only[Pt.nvs];rw[yS,ha];simp only[Option.bind_some,rM,kK];rw[if_pos (by first|trivial|rfl)]
 |.empty,st,h,hn=>by
  simp only[Pt.nvs,rM,kK];rw[if_neg (λhl=>by simp[iL]at hn;omega)]
 |.bytes _,st,_,_=>rfl
 |.bol,st,_,_=>rfl
 |.eol,st,_,_=>rfl
 |.ref _,st,_,_=>rfl
end Go.Dec
namespace Go.Dec
theorem yVk{n:Nat}(hn:5<=n){k:Int}(hk:0<=k)(hk8:k<=8):rA n ([1,7,8],k)=some (decide (k=1)||decide (k=7)||decide (k=8)):=by
 obtain⟨n,rfl⟩:∃ m,n=m+5:=⟨n-5,by omega⟩;have hcase:k=0\/k=1\/k=2\/k=3\/k=4\/k=5\/k=6\/k=7\/k=8:=by omega
 rcases hcase with rfl|rfl|rfl|rfl|rfl|rfl|rfl|rfl|rfl<;>rfl
theorem zXy(t:Pt):0<=t.kind/\t.kind<=8:=by cases t<;>simp[Pt.kind]
section
variable {n:Nat}{l:List Nd}{st:List Pt}
theorem yJj{i:Nat}{a b:Pt}(h:encR (b::a::st)=l.take i):At l (szA st) a/\At l (szA st+a.sz) b:=by
 have hl:l=encR (b::a::st)++l.drop i:=by rw[h,List.take_append_drop]
 simp only[encR]at hl;refine⟨⟨encR st,b.enc (szA st+a.sz)++l.drop i,?_,Il st⟩,⟨encR st++a.enc (szA st),l.drop i,?_,by rw[List.length_append,Il,Pt.bX]⟩⟩
 ·rw[Im]at hl;rw[List.append_assoc]at hl ⊢;rw[List.append_assoc]at hl;exact hl
 ·rw[Im]at hl;exact hl
theorem at_one{i:Nat}{a:Pt}(h:encR (a::st)=l.take i):At l (szA st) a:=by
 have hl:l=encR (a::st)++l.drop i:=by rw[h,List.take_append_drop]
 exact⟨encR st,l.drop i,hl,Il st⟩
theorem Dr{v:NV}(h:v.node.1≠4)(h2:v.node.1≠5)(h3:v.node.1≠6):mG n (l,v.node)=some true:=by
 unfold mG;simp only;rw[aC (by simpa using h),aC (by simpa using h2),aC (by simpa using h3)]
theorem yNs{oa ob':Nat}{a b:Pt}(ha:At l oa a)(hb:At l ob' b):mG n (l,(NV.cat (a.top oa) (b.top ob')).node)=some (decide (a.kind≠4/\a.kind≠5/\b.kind≠5)):=by
 unfold mG;simp only[NV.node];rw[aI (by rfl),aB ha.top.1,ha.top.2,Pt.zR,aB ha.top.1,aB hb.top.1,hb.top.2,Pt.zR];by_cases h1:a.kind=4
 ·rw[aC (by simp[h1]),decide_eq_false (by intro h;exact h.1 h1)]
 ·rw[aI (by simpa using h1)];by_cases h2:a.kind=5
  ·rw[aC (by simp[h2]),decide_eq_false (by intro h;exact h.2.1 h2)]
  ·rw[aI (by simpa using h2)];congr 1;rw[Bool.eq_iff_iff];simp[h1,h2]
theorem yNt{oa:Nat}{y:Int}{a:Pt}(ha:At l oa a):mG n (l,(NV.alt (a.top oa) y).node)=some (decide (a.kind≠5)):=by
 unfold mG;simp only[NV.node];rw[aC (by rfl),aI (by rfl),aB ha.top.1,ha.top.2,Pt.zR];congr 1;rw[Bool.eq_iff_iff];simp
theorem yGf{oa:Nat}{lo hi:Int}{a:Pt}(hn:5<=n)(ha:At l oa a):mG n (l,(NV.times (a.top oa) lo hi).node)=some (decide (a.kind=1)||decide (a.kind=7)||decide (a.kind=8)):=by
 unfold mG;simp only[NV.node];rw[aC (by rfl),aC (by rfl),aI (by rfl),aB ha.top.1,ha.top.2,Pt.zR,yVk hn (zXy a).1 (zXy a).2];rfl
def NV.parts:NV->Nat | .cat _ _ | .alt _ _=>2 | .times _ _ _ | .group _ _=>1 | _=>0
theorem parts_eq(v:NV):jQ n v.node=some (v.parts:Int):=by cases v<;>rfl
theorem zPe(a:Pt):(iO (a::st)).take st.length=iO st:=by
 simp only[iO];rw[List.take_append_of_le_length (by rw[qX];omega),List.take_of_length_le (by rw[qX];omega)]
theorem zXz(a b:Pt):(iO (b::a::st)).take st.length=iO st:=by
 rw[iO,List.take_append_of_le_length (by rw[qX];simp),zPe]
theorem zPf(a:Pt):(iO (a::st)).getD (0+st.length+0) 0=a.top (szA st):=by
 rw[iO,List.getD_eq_getElem?_getD,List.getElem?_append_right (by rw[qX];omega),qX];simp
theorem zYa(a b:Pt):(iO (b::a::st)).getD (0+st.length+0) 0=a.top (szA st):=by
 rw[iO,List.getD_eq_getElem?_getD,jI (by rw[qX];simp),<- List.getD_eq_getElem?_getD,zPf]
theorem zYb(a b:Pt):(iO (b::a::st)).getD (0+st.length+1) 0=b.top (szA st+a.sz):=by
 rw[iO,List.getD_eq_getElem?_getD,List.getElem?_append_right (by rw[qX];simp),qX,Im];simp
theorem zYc{g:List Nd × List Nd × Int × Int × List Int × Unit->Option Bool}{i:Nat}{v:NV}(hn:5<=n)(hl:l.length<1000000)(hi:i<l.length)(hv:l[i]?=some v.node)(hok:v.ok=true)(hw:Qf v.node)(hst:st.length<=i)(hsz:szA st=i)(he:encR st=l.take i):iY n g (l,l,(l.length:Int),(i:Int),iO st,())=match kK l.length st v with
  |none=>some false
  |some st2=>g (l,l,(l.length:Int),((i+1:Nat):Int),iO st2,()):=by
 unfold iY;simp only;have hget:∀ d,aR d l (i:Int)=v.node:=by
  intro d;rw[gX hi];rw[List.getElem?_eq_getElem hi]at hv;exact Option.some.inj hv
 rw[aI (by simp;omega),aB (fQ hi),hget,parts_eq];simp only[aK];have hone:tQ n v.node=some true:=by
  rcases zXx (n:=n) hw with ⟨h,_⟩|⟨_,h⟩
  ·exact h
  ·have:=h v rfl;rw[hok]at this;exact absurd this (by simp)
 rw[hone];simp only[aK,Bool.not_true,aZ];have hi1:IntKind.wrap .i64 ((i:Int)+1)=((i+1:Nat):Int):=by rw[aW (by omega) (by omega)];rfl
 have hlen:=qX st;have hfin:∀ (v0:NV) (k:Nat) (st2:List Pt),k<=st.length->iO st2=(iO st).take k++[(i:Int)] ->
  chk ((decide ((0:Int)<=(k:Int))&&decide ((k:Int)<=(st.length:Int)))) (
   chk ((Nat.ble ((k:Int).toNat) st.length&&Nat.ble ((((k:Int).toNat)+([(i:Int)]:List Int).length)*8) room)) (
    g (l,l,(l.length:Int),IntKind.wrap .i64 ((i:Int)+1),(iO st).take ((k:Int).toNat)++[(i:Int)],())))=g (l,l,(l.length:Int),((i+1:Nat):Int),iO st2,()):=by
  intro v0 k st2 hk h2;rw[aB (by simp;omega),aB (by simp[room];omega),hi1,Int.toNat_natCast,h2]
 have hd:Ty.dflt (.int .i64)=(0:Int):=rfl;have hK:∀ (p:Nat),p<=st.length->IntKind.wrap .i64 (((st.length:Nat):Int)-(p:Int))=((st.length-p:Nat):Int):=by
  intro p hp;rw[aW (by omega) (by omega)];omega
 have htop:∀ t:Pt,t.sz=1->iO (t::st)=(iO st).take st.length++[(i:Int)]:=by
  intro t ht;rw[List.take_of_length_le (by omega)];simp only[iO,Pt.top,ht,hsz];congr 2;omega
 rw[hlen];have hcut:∀ (p:Nat),p<=st.length->((st.length-((st.length-p:Nat):Int).toNat:Nat):Int)=(p:Int):=by
  intro p hp;rw[Int.toNat_natCast];omega
 cases v with
 |empty =>
  rw[show(NV.empty).parts=0 from rfl,hK 0 (by omega),aC (by simp),aI (by rfl)];by_cases h1:l.length>1
  ·rw[aI (by simp;omega)];simp only[kK];rw[if_pos h1]
  ·rw[aC (by simp;omega),aB (by simp),hcut 0 (by omega),aC (by simp),Dr (by simp[NV.node]) (by simp[NV.node]) (by simp[NV.node])];simp only[aK,Bool.not_true,aZ,kK];rw[if_neg h1];exact hfin .empty _ _ (by omega) (htop .empty rfl)
 |bytes p =>
  rw[show(NV.bytes p).parts=0 from rfl,hK 0 (by omega),aC (by simp),aC (by rfl),aB (by simp),hcut 0 (by omega),aC (by simp),Dr (by simp[NV.node]) (by simp[NV.node]) (by simp[NV.node])];simp only[aK,Bool.not_true,aZ,kK];exact hfin .empty _ _ (by omega) (htop (.bytes p) rfl)
 |bol =>
  rw[show(NV.bol).parts=0 from rfl,hK 0 (by omega),aC (by simp),aC (by rfl),aB (by simp),hcut 0 (by omega),aC (by simp),Dr (by simp[NV.node]) (by simp[NV.node]) (by simp[NV.node])];simp only[aK,Bool.not_true,aZ,kK];exact hfin .empty _ _ (by omega) (htop .bol rfl)
 |eol =>
  rw[show(NV.eol).parts=0 from rfl,hK 0 (by omega),aC (by simp),aC (by rfl),aB (by simp),hcut 0 (by omega),aC (by simp),Dr (by simp[NV.node]) (by simp[NV.node]) (by simp[NV.node])];simp only[aK,Bool.not_true,aZ,kK];exact hfin .empty _ _ (by omega) (htop .eol rfl)
 |ref m =>
  rw[show(NV.ref m).parts=0 from rfl,hK 0 (by omega),aC (by simp),aC (by rfl),aB (by simp),hcut 0 (by omega),aC (by simp),Dr (by simp[NV.node]) (by simp[NV.node]) (by simp[NV.node])];simp only[aK,Bool.not_true,aZ,kK];exact hfin .empty _ _ (by omega) (htop (.ref m) rfl)
 |times x lo hi =>
  cases st with
  |nil=>rfl
  |cons a st =>
   have ha:At l (szA st) a:=at_one he;rw[show(NV.times x lo hi).parts=1 from rfl,hK 1 (by simp),aC (by simp),aC (by rfl),aB (by simp;omega),hcut 1 (by simp),aI (by rfl)];simp only[List.length_cons,Nat.add_sub_cancel,Int.toNat_natCast];rw[aB (by simp[inB]),aB (by simp),hd,show(0:Int).toNat=0 from rfl,zPf];simp only[kK,NV.node];by_cases hx:a.top (szA st)=x
   ·subst hx;rw[aC (by simp),aC (by rfl)];have hf:=yGf (n:=n) (lo:=lo) (hi:=hi) hn ha;simp only[NV.node]at hf;rw[hf];simp only[aK];have hlt:=a.dN;by_cases hk:a.kind=1\/a.kind=7\/a.kind=8
    ·rw[if_pos ⟨trivial,hk⟩,aC (by rcases hk with h|h|h<;>simp[h])];have e:iO (.times a lo hi::st)=(iO (a::st)).take st.length++[(i:Int)]:=by
      rw[zPe];simp only[iO,Pt.top,Pt.sz];rw[Im]at hsz;congr 2;omega
     have:=hfin .empty st.length (.times a lo hi::st) (by simp) e;simpa using this
    ·rw[if_neg (λh=>hk h.2),aI (by simp only[not_or]at hk;simp[hk.1,hk.2.1,hk.2.2])]
   ·rw[if_neg (λh=>hx h.1),aI (by simpa using hx)]
 |group x m =>
  cases st with
  |nil=>rfl
  |cons a st =>
   have ha:At l (szA st) a:=at_one he;rw[show(NV.group x m).parts=1 from rfl,hK 1 (by simp),aC (by simp),aC (by rfl),aB (by simp;omega),hcut 1 (by simp),aI (by rfl)];simp only[List.length_cons,Nat.add_sub_cancel,Int.toNat_natCast];rw[aB (by simp[inB]),aB (by simp),hd,show(0:Int).toNat=0 from rfl,zPf];simp only[kK,NV.node];by_cases hx:a.top (szA st)=x
   ·subst hx;rw[aC (by simp),aC (by rfl)];have hf:=Dr (n:=n) (l:=l) (v:=.group (a.top (szA st)) m) (by simp[NV.node]) (by simp[NV.node]) (by simp[NV.node]);simp only[NV.node]at hf;rw[hf];simp only[aK];have hlt:=a.dN;rw[if_pos trivial,aC (by rfl)];have e:iO (.group a m::st)=(iO (a::st)).take st.length++[(i:Int)]:=by
     rw[zPe];simp only[iO,Pt.top,Pt.sz];rw[Im]at hsz;congr 2;omega
    have:=hfin .empty st.length (.group a m::st) (by simp) e;simpa using this
   ·rw[if_neg hx,aI (by simpa using hx)]
 |cat x y =>
  match st,hlen,hsz,he,hst,hK,hcut,hfin with
  |[],_,_,_,_,_,_,_=>rfl
  |[_],_,_,_,_,_,_,_=>rfl
  |b::a::st,hlen,hsz,he,hst,hK,hcut,hfin =>
   obtain⟨ha,hb⟩:=yJj he;rw[show(NV.cat x y).parts=2 from rfl,hK 2 (by simp),aC (by simp),aC (by rfl),aB (by simp;omega),hcut 2 (by simp),aI (by rfl)];simp only[List.length_cons,Nat.add_sub_cancel,Int.toNat_natCast,show ∀ k,k+1+1-2=k from λk=>rfl];rw[aB (by simp[inB];omega),aB (by simp;omega),hd,show(0:Int).toNat=0 from rfl,show(1:Int).toNat=1 from rfl,zYa,zYb];simp only[kK,NV.node];by_cases hx:a.top (szA st)=x
   ·subst hx;rw[aC (by simp),aI (by rfl),aB (by simp[inB];omega),aB (by simp)];by_cases hy:b.top (szA st+a.sz)=y
    ·subst hy;rw[aC (by simp)];have hf:=yNs (n:=n) ha hb;simp only[NV.node]at hf;rw[hf];simp only[aK];have hlt:=a.dN;by_cases hk:a.kind≠4/\a.kind≠5/\b.kind≠5
     ·rw[if_pos ⟨trivial,trivial,hk⟩,decide_eq_true hk,aC (by rfl)];have e:iO (.cat a b::st)=(iO (b::a::st)).take st.length++[(i:Int)]:=by
       rw[zXz];simp only[iO,Pt.top,Pt.sz];rw[Im,Im]at hsz;congr 2;omega
      have:=hfin .empty st.length (.cat a b::st) (by simp;omega) e;simpa using this
     ·rw[if_neg (λh=>hk h.2.2),decide_eq_false hk,aI (by rfl)]
    ·rw[if_neg (λh=>hy h.2.1),aI (by simpa using hy)]
   ·rw[if_neg (λh=>hx h.1),aI (by simpa using hx)]
 |alt x y =>
  match st,hlen,hsz,he,hst,hK,hcut,hfin with
  |[],_,_,_,_,_,_,_=>rfl
  |[_],_,_,_,_,_,_,_=>rfl
  |b::a::st,hlen,hsz,he,hst,hK,hcut,hfin =>
   obtain⟨ha,hb⟩:=yJj he;rw[show(NV.alt x y).parts=2 from rfl,hK 2 (by simp),aC (by simp),aC (by rfl),aB (by simp;omega),hcut 2 (by simp),aI (by rfl)];simp only[List.length_cons,Nat.add_sub_cancel,Int.toNat_natCast,show ∀ k,k+1+1-2=k from λk=>rfl];rw[aB (by simp[inB];omega),aB (by simp;omega),hd,show(0:Int).toNat=0 from rfl,show(1:Int).toNat=1 from rfl,zYa,zYb];simp only[kK,NV.node];by_cases hx:a.top (szA st)=x
   ·subst hx;rw[aC (by simp),aI (by rfl),aB (by simp[inB];omega),aB (by simp)];by_cases hy:b.top (szA st+a.sz)=y
    ·subst hy;rw[aC (by simp)];have hf:=yNt (n:=n) (y:=b.top (szA st+a.sz)) ha;simp only[NV.node]at hf;rw[hf];simp only[aK];have hlt:=a.dN;by_cases hk:a.kind≠5
     ·rw[if_pos ⟨trivial,trivial,hk⟩,decide_eq_true hk,aC (by rfl)];have e:iO (.alt a b::st)=(iO (b::a::st)).take st.length++[(i:Int)]:=by
       rw[zXz];simp only[iO,Pt.top,Pt.sz];rw[Im,Im]at hsz;congr 2;omega
      have:=hfin .empty st.length (.alt a b::st) (by simp;omega) e;simpa using this
     ·rw[if_neg (λh=>hk h.2.2),decide_eq_false hk,aI (by rfl)]
    ·rw[if_neg (λh=>hy h.2.1),aI (by simpa using hy)]
   ·rw[if_neg (λh=>hx h.1),aI (by simpa using hx)]
end
end Go.Dec
namespace Go.Dec
theorem zYd:∀ st:List Pt,st.length<=szA st
 |[]=>bA _
 |t::st=>by have:=zYd st;have:=t.dN;simp only[List.length_cons,szA];omega
theorem zYe{len:Nat}{st st2:List Pt}{v:NV}(h:kK len st v=some st2):szA st2=szA st+1:=by
 have:=congrArg List.length (Rp h);rw[List.length_append,Il,Il]at this;simpa using this
section
variable {n:Nat}{l:List Nd}
theorem Rq{i:Nat}{x:Nd}(h:l[i]?=some x):l.take (i+1)=l.take i++[x]:=by
 rw[List.take_add_one,h];rfl
theorem yCc(hn:5<=n)(hl:l.length<1000000)(hw:∀ nd∈l,Qf nd):∀ (vs:List NV) (i:Nat) (st:List Pt) (m:Nat),vs.map NV.node=l.drop i->(∀ v∈vs,v.ok=true)->i<=l.length->szA st=i->encR st=l.take i->vs.length<m ->
 fix (iY n) m (l,l,(l.length:Int),(i:Int),iO st,())=match rM l.length vs st with
  |none=>some false
  |some st2=>some (decide (st2.length=1)):=by
 intro vs;induction vs with
 |nil =>
  intro i st m hvs _ hi hsz he hm;have hi2:i=l.length:=by
   have:=congrArg List.length hvs;rw[List.length_drop]at this;simp at this;omega
  rw[bI hm,iY];simp only;rw[aC (by simp;omega),qX];simp only[rM];congr 1;rw[Bool.eq_iff_iff];simp;omega
 |cons v vs ih =>
  intro i st m hvs hok hi hsz he hm;have hil:i<l.length:=by
   have:=congrArg List.length hvs;rw[List.length_drop]at this;simp at this;omega
  have hv:l[i]?=some v.node:=by
   have:(l.drop i)[0]?=some v.node:=by rw[<- hvs];rfl
   rw[List.getElem?_drop]at this;simpa using this
  have xAe:vs.map NV.node=l.drop (i+1):=by
   have:(l.drop i).drop 1=vs.map NV.node:=by rw[<- hvs];rfl
   rw[List.drop_drop]at this;exact this.symm
  have hst:=zYd st;rw[bI (by omega),zYc hn hl hil hv (hok v (by simp)) (hw _ (List.mem_of_getElem? hv)) (by omega) hsz he];simp only[rM];cases hs:kK l.length st v with
  |none=>rfl
  |some st2 =>
   simp only;exact ih (i+1) st2 (m-1) xAe (λv hv=>hok v (by simp[hv])) (by omega) (by rw[zYe hs];omega) (by rw[Rp hs,he,Rq hv]) (by simp only[List.length_cons]at hm;omega)
theorem yRd(hn:5<=n)(hl:l.length<1000000)(hw:∀ nd∈l,Qf nd){j:Nat}{x:Nd}(hj:l[j]?=some x)(hx:∀ v:NV,x=v.node->v.ok=false):∀ (k i:Nat) (st:List Pt) (m:Nat),i+k=j->szA st=i->encR st=l.take i->k<m ->
 fix (iY n) m (l,l,(l.length:Int),(i:Int),iO st,())=some false:=by
 have hjl:j<l.length:=(bP.1 hj).1;intro k;induction k with
 |zero =>
  intro i st m hi hsz he hm;have hi:i=j:=by omega
  subst hi;rw[bI hm,iY];simp only;have hget:∀ d,aR d l (i:Int)=x:=by
   intro d;rw[gX hjl];rw[List.getElem?_eq_getElem hjl]at hj;exact Option.some.inj hj
  rw[aI (by simp;omega),aB (fQ hjl),hget];have hone:tQ n x=some false:=by
   rcases zXx (n:=n) (hw x (List.mem_of_getElem? hj))with ⟨_,v,h1,h2⟩|⟨h,_⟩
   ·rw[hx v h1]at h2;exact absurd h2 (by simp)
   ·exact h
  rw[hone];have hp:∃ p,jQ n x=some p:=by
   unfold jQ;simp only;cases(x.1==4)<;>cases(x.1==5)<;>cases(x.1==6)<;>cases(x.1==7)<;>exact⟨_,rfl⟩
  obtain⟨p,hp⟩:=hp;rw[hp];rfl
 |succ k ih =>
  intro i st m hi hsz he hm;have hil:i<l.length:=by omega
  have hli:l[i]?=some l[i]:=List.getElem?_eq_getElem hil;have hst:=zYd st;rcases zXx (n:=n) (hw _ (List.mem_of_getElem? hli))with ⟨_,v,h1,h2⟩|⟨h,_⟩
  ·rw[h1]at hli;rw[bI (by omega),zYc hn hl hil hli h2 (hw _ (List.mem_of_getElem? hli)) (by omega) hsz he];cases hs:kK l.length st v with
   |none=>rfl
   |some st2 =>
    simp only;exact ih (i+1) st2 (m-1) (by omega) (by rw[zYe hs];omega) (by rw[Rp hs,he,Rq hli]) (by omega)
  ·rw[bI (by omega),iY];simp only;have hget:∀ d,aR d l (i:Int)=l[i]:=λd=>gX hil
   rw[aI (by simp;omega),aB (fQ hil),hget,h];have hp:∃ p,jQ n l[i]=some p:=by
    unfold jQ;simp only;cases(l[i].1==4)<;>cases(l[i].1==5)<;>cases(l[i].1==6)<;>cases(l[i].1==7)<;>exact⟨_,rfl⟩
   obtain⟨p,hp⟩:=hp;rw[hp];rfl
theorem zRb{len:Nat}:∀ (vs:List NV) (st st2:List Pt),(∀ v∈vs,v.ok=true)->(∀ t∈st,Gj len t)->rM len vs st=some st2->encR st2=encR st++vs.map NV.node/\∀ t∈st2,Gj len t
 |[],st,st2,_,hst,h=>by simp only[rM,aA]at h;subst h;exact⟨by simp,hst⟩
 |v::vs,st,st2,hv,hst,h=>by
  simp only[rM]at h;cases hs:kK len st v with
  |none=>rw[hs]at h;simp at h
  |some st3 =>
   rw[hs]at h;have:=zRb vs st3 st2 (λv h=>hv v (by simp[h])) (yNr (hv v (by simp)) hst hs) h;exact⟨by rw[this.1,Rp hs,List.append_assoc];rfl,this.2⟩
theorem Xk:∀ l:List Nd,(∃ vs:List NV,vs.map NV.node=l/\∀ v∈vs,v.ok=true)\/(∃ (j:Nat) (x:Nd),l[j]?=some x/\∀ v:NV,x=v.node->v.ok=false)
 |[]=>Or.inl ⟨[],rfl,by simp⟩
 |x::l=>by
  by_cases hx:∃ v:NV,x=v.node/\v.ok=true
  ·obtain⟨v,h1,h2⟩:=hx;rcases Xk l with ⟨vs,h3,h4⟩|⟨j,y,h3,h4⟩
   ·exact Or.inl ⟨v::vs,by rw[List.map_cons,h3,h1],by intro u hu;rcases List.mem_cons.1 hu with rfl|hu;exact h2;exact h4 u hu⟩
   ·exact Or.inr ⟨j+1,y,by simpa using h3,h4⟩
  ·exact Or.inr ⟨0,x,rfl,λv hv=>by
    cases h:v.ok
    ·rfl
    ·exact absurd ⟨v,hv,h⟩ hx⟩
theorem yGg(hn:5<=n)(hnl:l.length<n)(hl:l.length<1000000)(hw:∀ nd∈l,Qf nd):(zC n l=some true/\∃ t,l=t.enc 0/\Gj l.length t)\/(zC n l=some false/\∀ t,l=t.enc 0->¬ Gj l.length t):=by
 unfold zC;simp only;have hcomp:∀ t,l=t.enc 0->Gj l.length t->fix (iY n) n (l,l,(l.length:Int),0,[],())=some true:=by
  intro t ht hk;have hm:(t.nvs 0).map NV.node=l.drop 0:=by rw[zS,ht];rfl
  have hvl:(t.nvs 0).length=l.length:=by have:=congrArg List.length hm;simpa using this
  have:=yCc hn hl hw (t.nvs 0) 0 [] n hm (Kn t 0 hk.1) (by omega) rfl (by rfl) (by omega);have hf:=wG l.length t [] hk.2.1 hk.2.2;rw[show szA []=0 from rfl]at hf;rw[hf]at this;exact this
 rcases Xk l with ⟨vs,h1,h2⟩|⟨j,x,h1,h2⟩
 ·have hvl:vs.length=l.length:=by have:=congrArg List.length h1;simpa using this
  have hN:=yCc hn hl hw vs 0 [] n (by rw[h1];rfl) h2 (by omega) rfl (by rfl) (by omega);rw[show((0:Nat):Int)=0 from rfl,show iO []=[]from rfl]at hN;cases hf:rM l.length vs []with
  |none =>
   rw[hf]at hN;refine Or.inr ⟨hN,λt ht hk=>?_⟩;have:=hcomp t ht hk;rw[hN]at this;simp at this
  |some st2 =>
   rw[hf]at hN;obtain⟨ho1,ho2⟩:=zRb vs [] st2 h2 (by simp) hf;by_cases h1l:st2.length=1
   ·match st2,h1l with
    |[t],_ =>
     refine Or.inl ⟨hN,t,?_,ho2 t (by simp)⟩;simp only[encR,szA,List.nil_append,h1]at ho1;exact ho1.symm
   ·simp only[decide_eq_false h1l]at hN;refine Or.inr ⟨hN,λt ht hk=>?_⟩;have:=hcomp t ht hk;rw[hN]at this;simp at this
 ·have hjl:j<l.length:=(bP.1 h1).1;have hB:=yRd hn hl hw h1 h2 j 0 [] n (by omega) rfl rfl (by omega);refine Or.inr ⟨hB,λt ht hk=>?_⟩;have:=hcomp t ht hk;rw[show((0:Nat):Int)=0 from rfl,show iO []=[]from rfl]at hB;rw[hB]at this;simp at this
end
abbrev W4:Type:=Nat × Bool × List Bool × Bool
def aP:Pt->W4->W4 | .cat a b,w=>aP b (aP a w) | .alt a b,w=>aP b (aP a w) | .times a _ _,w=>aP a w | .group a m,w=>((aP a (w.1+1,w.2.1&&decide (m = w.1+1),w.2.2.1,w.2.2.2)).1,(aP a (w.1+1,w.2.1&&decide (m = w.1+1),w.2.2.1,w.2.2.2)).2.1,(aP a (w.1+1,w.2.1&&decide (m = w.1+1),w.2.2.1,w.2.2.2)).2.2.1.set m true,(aP a (w.1+1,w.2.1&&decide (m = w.1+1),w.2.2.1,w.2.2.2)).2.2.2) | .ref m,w=>(w.1,w.2.1&&w.2.2.1.getD m false,w.2.2.1,true) | _,w=>w
theorem oU:∀ (t:Pt) (w:W4),(aP t w).2.2.1.length=w.2.2.1.length
 |.cat a b,w=>by simp only[aP];rw[oU b,oU a]
 |.alt a b,w=>by simp only[aP];rw[oU b,oU a]
 |.times a _ _,w=>by simp only[aP];rw[oU a]
 |.group a m,w=>by simp only[aP,List.length_set];rw[oU a]
 |.ref m,w=>rfl
 |.empty,w|.bol,w|.eol,w|.bytes _,w=>rfl
theorem Bg:∀ (t:Pt) (w:W4),(aP t w).1<=w.1+t.sz
 |.cat a b,w=>by simp only[aP,Pt.sz];have:=Bg b (aP a w);have:=Bg a w;omega
 |.alt a b,w=>by simp only[aP,Pt.sz];have:=Bg b (aP a w);have:=Bg a w;omega
 |.times a _ _,w=>by simp only[aP,Pt.sz];have:=Bg a w;omega
 |.group a m,w=>by simp only[aP,Pt.sz];have:=Bg a (w.1+1,w.2.1&&decide (m=w.1+1),w.2.2.1,w.2.2.2);simp only at this;omega
 |.ref m,w=>by simp only[aP];omega
 |.empty,w|.bol,w|.eol,w|.bytes _,w=>by simp only[aP];omega
theorem oV:∀ (t:Pt) (g:Nat) (i c:Bool) (e:List Bool) (r:Bool),aP t (g,i&&c,e,r)=((aP t (g,i,e,r)).1,(aP t (g,i,e,r)).2.1&&c,(aP t (g,i,e,r)).2.2.1,(aP t (g,i,e,r)).2.2.2)
 |.cat a b,g,i,c,e,r=>by
  simp only[aP];rw[oV a];rw[oV b (aP a (g,i,e,r)).1 (aP a (g,i,e,r)).2.1]
 |.alt a b,g,i,c,e,r=>by
  simp only[aP];rw[oV a];rw[oV b (aP a (g,i,e,r)).1 (aP a (g,i,e,r)).2.1]
 |.times a _ _,g,i,c,e,r=>by simp only[aP];rw[oV a]
 |.group a m,g,i,c,e,r=>by
  simp only[aP];have:(i&&c&&decide (m=g+1))=(i&&decide (m=g+1)&&c):=by cases i<;>cases c<;>cases decide (m=g+1)<;>rfl
  rw[this,oV a]
 |.ref m,g,i,c,e,r=>by
  simp only[aP];cases i<;>cases c<;>cases e.getD m false<;>rfl
 |.empty,_,_,_,_,_|.bol,_,_,_,_,_|.eol,_,_,_,_,_|.bytes _,_,_,_,_,_=>rfl
def W4.out (l:List Nd) (w:W4):Option (List Nd×Int×Bool×List Bool×Bool×Unit):=some (l,(w.1:Int),w.2.1,w.2.2.1,w.2.2.2,())
theorem Yr{l:List Nd}(hl:l.length<1000000):∀ (t:Pt) (o m:Nat) (w:W4),At l o t->bY t=true->t.sz<=m->w.1+t.sz<1000000->w.2.2.1.length=10 ->
 oP m (t.top o,l,(w.1:Int),w.2.1,w.2.2.1,w.2.2.2,())=W4.out l (aP t w):=by
 intro t;have start:∀ {t:Pt}{o m:Nat}{x:List Nd × Int × Bool × List Bool × Bool × Unit},At l o t->oP (m+1) (t.top o,x)=eU m (oP m) (t.top o,x):=λ_=>rfl
 induction t with
 |empty =>
  intro o m w h hf hm hg he;obtain⟨m,rfl⟩:∃ k,m=k+1:=⟨m-1,by simp only[Pt.sz]at hm;omega⟩;rw[start h];unfold eU;simp only;rw[aB h.top.1,h.top.2];rfl
 |bytes p =>
  intro o m w h hf hm hg he;obtain⟨m,rfl⟩:∃ k,m=k+1:=⟨m-1,by simp only[Pt.sz]at hm;omega⟩;rw[start h];unfold eU;simp only;rw[aB h.top.1,h.top.2];rfl
 |bol =>
  intro o m w h hf hm hg he;obtain⟨m,rfl⟩:∃ k,m=k+1:=⟨m-1,by simp only[Pt.sz]at hm;omega⟩;rw[start h];unfold eU;simp only;rw[aB h.top.1,h.top.2];rfl
 |eol =>
  intro o m w h hf hm hg he;obtain⟨m,rfl⟩:∃ k,m=k+1:=⟨m-1,by simp only[Pt.sz]at hm;omega⟩;rw[start h];unfold eU;simp only;rw[aB h.top.1,h.top.2];rfl
 |ref k =>
  intro o m w h hf hm hg he;obtain⟨m,rfl⟩:∃ k,m=k+1:=⟨m-1,by simp only[Pt.sz]at hm;omega⟩;simp only[bY,aH,decide_eq_true_eq]at hf;rw[start h];unfold eU;simp only;rw[aB h.top.1,h.top.2];simp only[Pt.nv,NV.node];rw[aC (by rfl),aC (by rfl),aC (by rfl),aC (by rfl),aI (by rfl),aB (fQ (i:=k) (n:=10) (by omega)),aB (by exact decide_eq_true (show k<10 by omega))];simp only[aP,W4.out,Int.toNat_natCast];cases w.2.1<;>rfl
 |cat a b iha ihb =>
  intro o m w h hf hm hg he;obtain⟨m,rfl⟩:∃ k,m=k+1:=⟨m-1,by simp only[Pt.sz]at hm;omega⟩;simp only[bY,aH]at hf;simp only[Pt.sz]at hm hg;rw[start h];unfold eU;simp only;rw[aB h.top.1,h.top.2];simp only[Pt.nv,NV.node];have hga:=Bg a w;rw[aI (by rfl),aI (by rfl),iha o m w h.Lg.1 hf.1 (by omega) (by omega) he];simp only[W4.out,aK];rw[ihb (o+a.sz) m (aP a w) h.Lg.2 hf.2 (by omega) (by omega) (by rw[oU];exact he)];rfl
 |alt a b iha ihb =>
  intro o m w h hf hm hg he;obtain⟨m,rfl⟩:∃ k,m=k+1:=⟨m-1,by simp only[Pt.sz]at hm;omega⟩;simp only[bY,aH]at hf;simp only[Pt.sz]at hm hg;rw[start h];unfold eU;simp only;rw[aB h.top.1,h.top.2];simp only[Pt.nv,NV.node];have hga:=Bg a w;rw[aC (by rfl),aI (by rfl),iha o m w h.alt1.1 hf.1 (by omega) (by omega) he];simp only[W4.out,aK];rw[ihb (o+a.sz) m (aP a w) h.alt1.2 hf.2 (by omega) (by omega) (by rw[oU];exact he)];rfl
 |times a lo hi iha =>
  intro o m w h hf hm hg he;obtain⟨m,rfl⟩:∃ k,m=k+1:=⟨m-1,by simp only[Pt.sz]at hm;omega⟩;simp only[bY,aH]at hf;simp only[Pt.sz]at hm hg;rw[start h];unfold eU;simp only;rw[aB h.top.1,h.top.2];simp only[Pt.nv,NV.node];rw[aC (by rfl),aC (by rfl),aI (by rfl),iha o m w h.Va hf.1 (by omega) (by omega) he];rfl
 |group a k iha =>
  intro o m w h hf hm hg he;obtain⟨m,rfl⟩:∃ k,m=k+1:=⟨m-1,by simp only[Pt.sz]at hm;omega⟩;simp only[bY,aH,decide_eq_true_eq]at hf;simp only[Pt.sz]at hm hg;rw[start h];unfold eU;simp only;rw[aB h.top.1,h.top.2];simp only[Pt.nv,NV.node];rw[aC (by rfl),aC (by rfl),aC (by rfl),aI (by rfl),aW (by omega) (by omega),show(w.1:Int)+1=((w.1+1:Nat):Int)from rfl];have hI:=iha o m (w.1+1,w.2.1&&decide (k=w.1+1),w.2.2.1,w.2.2.2) h.Vb hf.1 (by omega) (by simp only;omega) he;simp only at hI;have he2:((k:Int)==((w.1+1:Nat):Int))=decide (k=w.1+1):=by rw[Bool.eq_iff_iff,beq_iff_eq,decide_eq_true_eq];omega
  have hlen:=oU a (w.1+1,w.2.1&&decide (k=w.1+1),w.2.2.1,w.2.2.2);rw[he2];cases hb:w.2.1<;>rw[hb]at hI hlen
  ·simp only[Bool.false_and]at hI hlen;rw[aZ,hI];simp only[W4.out,aK];rw[aB (fQ (i:=k) (n:=10) (by omega)),aB (by exact decide_eq_true (show k<10 by omega))];simp only[aP,hb,Bool.false_and,Int.toNat_natCast]
  ·simp only[Bool.true_and]at hI hlen;rw[bQ,hI];simp only[W4.out,aK];rw[aB (fQ (i:=k) (n:=10) (by omega)),aB (by exact decide_eq_true (show k<10 by omega))];simp only[aP,hb,Bool.true_and,Int.toNat_natCast]
def w0:W4:=(0,true,Ii,false)
def tF (t:Pt):Prop:=t.sz<=120 ∧ Gj t.sz t ∧ (aP t w0).2.1 = true
theorem yGh{n:Nat}{l:List Nd}(hn:200<=n)(hw:∀ nd∈l,Qf nd):(∃ t,tF t/\l=t.enc 0/\Dl n l=some (((aP t w0).1:Int),(aP t w0).2.2.2,true))\/((∀ t,tF t->l≠t.enc 0)/\Dl n l=some (0,false,false)):=by
 unfold Dl;simp only;have hsz:∀ t:Pt,l=t.enc 0->l.length=t.sz:=λt h=>by rw[h,Pt.bX]
 by_cases h0:l.length=0
 ·rw[aI (by rw[h0];rfl)];exact Or.inr ⟨λt _ h=>by have:=hsz t h;have:=t.dN;omega,rfl⟩
 rw[aC (by simp;intro h;rw[h]at h0;simp at h0)];by_cases h1:l.length>120
 ·rw[aI (by simp;omega)];exact Or.inr ⟨λt ht h=>by have:=hsz t h;have:=ht.1;omega,rfl⟩
 rw[aC (by simp;omega)];rcases yGg (n:=n) (l:=l) (by omega) (by omega) (by omega) hw with ⟨ho,t,ht,hk⟩|⟨ho,hno⟩
 ·rw[ho];simp only[aK,Bool.not_true,aZ];unfold Iz;simp only;have hlt:=hsz t ht;have htp:=t.dN;rw[aW (by omega) (by omega),show(l.length:Int)-1=t.top 0 by unfold Pt.top;omega];have hA:At l 0 t:=by have:=At.self t;rw[<- ht]at this;exact this
  have hN:=Yr (l:=l) (by omega) t 0 n w0 hA hk.1 (by omega) (by simp only[w0];omega) rfl;have hw0:oP n (t.top 0,l,0,true,[false,false,false,false,false,false,false,false,false,false],false,())=W4.out l (aP t w0):=hN;rw[hw0];simp only[W4.out,aK];cases hi:(aP t w0).2.1
  ·refine Or.inr ⟨λu hu h=>?_,rfl⟩;have hu2:=hu.2.2;have hlu:=hsz u h;have hB:At l 0 u:=by have:=At.self u;rw[<- h]at this;exact this
   have htop:t.top 0=u.top 0:=by unfold Pt.top;omega
   have hM:=Yr (l:=l) (by omega) u 0 n w0 hB hu.2.1.1 (by omega) (by simp only[w0];omega) rfl;rw[<- htop,hN]at hM;simp only[W4.out,aA,aF]at hM;have:=hM.2.2.1;rw[hi,hu2]at this;simp at this
  ·rw[hlt]at hk;exact Or.inl ⟨t,⟨by omega,hk,hi⟩,ht,rfl⟩
 ·rw[ho];simp only[aK,Bool.not_false,bQ];exact Or.inr ⟨λt ht h=>by have:=hno t h;rw[hsz t h]at this;exact this ht.2.1,by first|rfl|trivial⟩
theorem zRc{n:Nat}{l:List Nd}(hn:200<=n)(hw:∀ nd∈l,Qf nd):(∃ t,tF t/\l=t.enc 0/\Er n l=some true)\/((∀ t,tF t->l≠t.enc 0)/\Er n l=some false):=by
 unfold Er;simp only;rcases yGh hn hw with ⟨t,h1,h2,h3⟩|⟨h1,h2⟩
 ·exact Or.inl ⟨t,h1,h2,by rw[h3];rfl⟩
 ·exact Or.inr ⟨h1,by rw[h2];rfl⟩
end Go.Dec
namespace Go.Dec
def Ti (ts:List Pt) (w:W4):W4:=ts.foldl (fun w t=>aP t w) w
theorem zYf{p:Nat->Bool}{i:Nat}(hi:i<256)(h:p i=true):gM p=false:=by
 cases he:gM p
 ·rfl
 ·have:=sZ he hi;rw[h]at this;simp at this
theorem yRe{r:List UInt8}{p:Nat->Bool}{k:Nat}(h:Gi r=some (p,k)):gM p=false:=by
 unfold Gi at h;cases h1:[91].isPrefixOf r<;>rw[h1]at h<;>simp only[cond_true,cond_false]at h
 ·simp at h
 ·cases h3:qV (r.length+1) true (λ_=>false) (r.drop (bif [94].isPrefixOf (r.drop 1)then 2 else 1))with
  |none=>rw[h3]at h;simp at h
  |some x =>
   obtain⟨q,m⟩:=x;rw[h3]at h;simp only at h;cases h4:gM (bif [94].isPrefixOf (r.drop 1)then(λj=>!q j)else q)<;>rw[h4]at h<;>simp at h
   rw[<- h.1];simpa using h4
theorem zPg(c:UInt8):gM (Lf c)=false:=zYf c.toNat_lt (by simp[Lf])
def zCt (t:Pt):Prop:=bY t = true ∧ eO t = true ∧ iL t = true ∧ t.kind ≠ 4 ∧ t.kind ≠ 5
def zYg (t:Pt):Prop:=bY t = true ∧ eO t = true ∧ iL t = true ∧ (t.kind = 1 ∨ t.kind = 7 ∨ t.kind = 8)
def yRf (t:Pt):Prop:=bY t = true ∧ eO t = true ∧ iL t = true ∧ t.kind ≠ 5
theorem zYg.item{t:Pt}(h:zYg t):zCt t:=⟨h.1,h.2.1,h.2.2.1,by rcases h.2.2.2 with h|h|h<;>omega,by rcases h.2.2.2 with h|h|h<;>omega⟩
theorem yJk(t:Pt)(o:Nat):∀ nd∈t.enc o,Qf nd:=by
 intro nd h;rw[<- zS]at h;obtain⟨v,_,rfl⟩:=List.mem_map.1 h;cases v with
 |bytes p=>exact⟨p,rfl⟩
 |_=>exact⟨λ_=>false,rX.symm⟩
theorem yCd{n:Nat}{t:Pt}(hn:200<=n)(h:tF t):Er n (t.enc 0)=some true:=by
 rcases zRc (n:=n) (l:=t.enc 0) hn (yJk t 0)with ⟨_,_,_,h3⟩|⟨h1,_⟩
 ·exact h3
 ·exact absurd rfl (h1 t h)
theorem yVl{n:Nat}{l:List Nd}(hl:l.length<n)(hl2:l.length<1000000):zAw n l=some l:=by
 unfold zAw;simp only;have key:∀ k i m,i+k=l.length->k<m->fix (xM n) m (l,(i:Int),l.take i,())=some l:=by
  intro k;induction k with
  |zero =>
   intro i m hi hm;rw[bI hm,xM];simp only;rw[aC (by simp;omega),List.take_of_length_le (by omega)]
  |succ k ih =>
   intro i m hi hm;have hil:i<l.length:=by omega
   rw[bI (by omega),xM];simp only;rw[aI (by simp;omega),aB (fQ hil),gX hil,aB (by simp[room];omega),aW (by omega) (by omega),show(i:Int)+1=((i+1:Nat):Int)by omega];have:=ih (i+1) (m-1) (by omega) (by omega);rw[Rq (List.getElem?_eq_getElem hil)]at this;exact this
 exact key l.length 0 n (by omega) (by omega)
theorem yJl{n:Nat}{l:List Nd}(hl:l.length<n)(hl2:l.length<1000000):sN n (l,l)=some true:=by
 unfold sN;simp only;rw[aC (by simp)];refine yP (λi=>(l,l,(i:Int),())) (N:=l.length) ?_ ?_ l.length 0 n (by omega) (by omega)
 ·intro i hi g;unfold nG;simp only;rw[aI (by simp;omega),aB (fQ hi),aB (fQ hi),yGd rfl,aC (by rfl),aW (by omega) (by omega)];rfl
 ·intro g;unfold nG;simp only;rw[aC (by simp)]
end Go.Dec
