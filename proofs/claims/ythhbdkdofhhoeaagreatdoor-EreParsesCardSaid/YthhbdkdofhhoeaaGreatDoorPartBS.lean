/- Part of a proof over this seat: a library of my own, and what it says of this seat. No statement is proved here. -/
import Derived.Test.YthhbdkdofhhoeaaGreatDoorPartBQ
namespace Go.Dec
def Pt.kind:Pt->Int
 | .empty=>0 | .bytes _=>1 | .bol=>2 | .eol=>3 | .cat _ _=>4 | .alt _ _=>5 | .times _ _ _=>6 | .group _ _=>7 | .ref _=>8
inductive NV where
 | empty | bol | eol
 | bytes (p:Nat->Bool)
 | cat (a b:Int) | alt (a b:Int)
 | times (a lo hi:Int)
 | group (a:Int) (m:Nat)
 | ref (m:Nat)
def NV.node:NV->Nd
 | .empty=>(0,[0,0,0,0],0,0,0,0,0,())
 | .bytes p=>(1,wd p,0,0,0,0,0,())
 | .bol=>(2,[0,0,0,0],0,0,0,0,0,())
 | .eol=>(3,[0,0,0,0],0,0,0,0,0,())
 | .cat a b=>(4,[0,0,0,0],a,b,0,0,0,())
 | .alt a b=>(5,[0,0,0,0],a,b,0,0,0,())
 | .times a lo hi=>(6,[0,0,0,0],a,0,lo,hi,0,())
 | .group a m=>(7,[0,0,0,0],a,0,0,0,(m:Int),())
 | .ref m=>(8,[0,0,0,0],0,0,0,0,(m:Int),())
def rT (lo hi:Int):Bool:=decide (0 <= lo) && decide (lo <= 255) && (decide (hi=-1) || (decide (lo <= hi) && decide (1 <= hi) && decide (hi <= 255)))
def NV.ok:NV->Bool
 | .bytes p=>!fJ p
 | .times _ lo hi=>rT lo hi
 | .group _ m=>decide (1 <= m) && decide (m <= 9)
 | .ref m=>decide (1 <= m) && decide (m <= 9)
 | _=>true
def Ws (nd:Nd):Prop:=∃ p,nd.2.1=wd p
theorem yKa {x y:Nd} (h:x=y):Ty.beq aC x y=true:=(@beq_iff aC rfl x y).2 h
theorem yOe {x y:Nd} (h:¬ x=y):Ty.beq aC x y=false:=beq_false (t:=aC) rfl h
def yEu (nd:Nd) (e:Option Bool):Prop:=(e=some true∧∃ v:NV,nd=v.node∧v.ok=true)∨(e=some false∧∀ v:NV,nd=v.node->v.ok=false)
theorem zJu (v:NV):0 <= v.node.1∧v.node.1 <= 8:=by cases v <;> simp [NV.node]
section
variable {n:Nat} {w:List Int} {a b lo hi m:Int} {u:Unit}
theorem plain0:cB n (0,w,a,b,lo,hi,m,u)=some (0,[0,0,0,0],0,0,0,0,0,()):=by simp [cB]
theorem yKb:cB n (1,w,a,b,lo,hi,m,u)=some (1,w,0,0,0,0,0,()):=by simp [cB]
theorem yKc:cB n (2,w,a,b,lo,hi,m,u)=some (2,[0,0,0,0],0,0,0,0,0,()):=by simp [cB]
theorem yKd:cB n (3,w,a,b,lo,hi,m,u)=some (3,[0,0,0,0],0,0,0,0,0,()):=by simp [cB]
theorem yKe:cB n (4,w,a,b,lo,hi,m,u)=some (4,[0,0,0,0],a,b,0,0,0,()):=by simp [cB]
theorem yKf:cB n (5,w,a,b,lo,hi,m,u)=some (5,[0,0,0,0],a,b,0,0,0,()):=by simp [cB]
theorem yKg:cB n (6,w,a,b,lo,hi,m,u)=some (6,[0,0,0,0],a,0,lo,hi,0,()):=by simp [cB]
theorem yKh:cB n (7,w,a,b,lo,hi,m,u)=some (7,[0,0,0,0],a,0,0,0,m,u):=by simp [cB]
theorem plain8:cB n (8,w,a,b,lo,hi,m,u)=some (8,[0,0,0,0],0,0,0,0,m,u):=by simp [cB]
end
theorem zPy {n:Nat} {nd:Nd} (hw:Ws nd):yEu nd (qZ n nd):=by
 obtain ⟨k,w,a,b,lo,hi,m,u⟩:=nd
 obtain ⟨p,hp⟩:=hw
 simp only at hp
 subst hp
 unfold qZ
 simp only
 by_cases h0:k < 0
 ·rw [aK (by simp; omega)]
  exact Or.inr ⟨rfl,fun v hv=>by have:=zJu v; rw [<- hv] at this; omega⟩
 rw [aF (by simp; omega)]
 by_cases h8:k > 8
 ·rw [aK (by simp; omega)]
  exact Or.inr ⟨rfl,fun v hv=>by have:=zJu v; rw [<- hv] at this; omega⟩
 rw [aF (by simp; omega)]
 have hcase:k=0∨k=1∨k=2∨k=3∨k=4∨k=5∨k=6∨k=7∨k=8:=by omega
 have hbad:∀ {nd':Nd} {X:Option Bool},(∀ v:NV,(k,wd p,a,b,lo,hi,m,u)=v.node->(k,wd p,a,b,lo,hi,m,u)=nd')->¬ (k,wd p,a,b,lo,hi,m,u)=nd'->yEu (k,wd p,a,b,lo,hi,m,u) (br (!(Ty.beq aC (k,wd p,a,b,lo,hi,m,u) nd')) (some false) X):=by
  intro nd' X h1 h2
  rw [yOe h2]
  exact Or.inr ⟨rfl,fun v hv=>absurd (h1 v hv) h2⟩
 have hgood:∀ {nd':Nd} {X:Option Bool},(k,wd p,a,b,lo,hi,m,u)=nd'->(br (!(Ty.beq aC (k,wd p,a,b,lo,hi,m,u) nd')) (some false) X)=X:=by
  intro nd' X h
  rw [yKa h]; rfl
 have hng:∀ {m:Int} (v:NV),1 <= m->∃ m':Nat,m=(m':Int):=fun {m} _ h=>⟨m.toNat,by omega⟩
 rcases hcase with rfl | rfl | rfl | rfl | rfl | rfl | rfl | rfl | rfl
 ·rw [plain0,aQ]
  by_cases h:((0:Int),wd p,a,b,lo,hi,m,u)=((0,[0,0,0,0],0,0,0,0,0,()):Nd)
  ·rw [hgood h]; exact Or.inl ⟨rfl,.empty,h,rfl⟩
  ·exact hbad (fun v hv=>by rw [hv]; cases v <;> simp [NV.node] at hv ⊢) h
 ·rw [yKb,aQ]
  by_cases h:((1:Int),wd p,a,b,lo,hi,m,u)=((1,wd p,0,0,0,0,0,()):Nd)
  ·rw [hgood h]
   rw [aK (by rfl)]
   rw [vS]
   cases he:fJ p
   ·exact Or.inl ⟨rfl,.bytes p,h,by simp [NV.ok,he]⟩
   ·refine Or.inr ⟨rfl,fun v hv=>?_⟩
    have e1:=congrArg (fun x:Nd=>x.2.1) hv
    have e0:=congrArg (fun x:Nd=>x.1) hv
    cases v <;> simp [NV.node] at e0 e1
    simp only [NV.ok]
    rw [<- vS,<- e1,vS,he]; rfl
  ·exact hbad (fun v hv=>by rw [hv]; cases v <;> simp [NV.node] at hv ⊢; exact hv.1.symm) h
 ·rw [yKc,aQ]
  by_cases h:((2:Int),wd p,a,b,lo,hi,m,u)=((2,[0,0,0,0],0,0,0,0,0,()):Nd)
  ·rw [hgood h]; exact Or.inl ⟨rfl,.bol,h,rfl⟩
  ·exact hbad (fun v hv=>by rw [hv]; cases v <;> simp [NV.node] at hv ⊢) h
 ·rw [yKd,aQ]
  by_cases h:((3:Int),wd p,a,b,lo,hi,m,u)=((3,[0,0,0,0],0,0,0,0,0,()):Nd)
  ·rw [hgood h]; exact Or.inl ⟨rfl,.eol,h,rfl⟩
  ·exact hbad (fun v hv=>by rw [hv]; cases v <;> simp [NV.node] at hv ⊢) h
 ·rw [yKe,aQ]
  by_cases h:((4:Int),wd p,a,b,lo,hi,m,u)=((4,[0,0,0,0],a,b,0,0,0,()):Nd)
  ·rw [hgood h]; exact Or.inl ⟨rfl,.cat a b,h,rfl⟩
  ·exact hbad (fun v hv=>by rw [hv]; cases v <;> simp [NV.node] at hv ⊢; exact ⟨hv.2.1.symm,hv.2.2.1.symm⟩) h
 ·rw [yKf,aQ]
  by_cases h:((5:Int),wd p,a,b,lo,hi,m,u)=((5,[0,0,0,0],a,b,0,0,0,()):Nd)
  ·rw [hgood h]; exact Or.inl ⟨rfl,.alt a b,h,rfl⟩
  ·exact hbad (fun v hv=>by rw [hv]; cases v <;> simp [NV.node] at hv ⊢; exact ⟨hv.2.1.symm,hv.2.2.1.symm⟩) h
 ·rw [yKg,aQ]
  by_cases h:((6:Int),wd p,a,b,lo,hi,m,u)=((6,[0,0,0,0],a,0,lo,hi,0,()):Nd)
  ·rw [hgood h]
   rw [aF (by rfl),aK (by rfl)]
   have e:(br (decide (lo ≥ 0)) (br (decide (lo <= 255)) (br (hi == -1) (some true) (br (decide (hi ≥ if 1 > lo then 1 else lo)) (some (decide (hi <= 255))) (some false))) (some false)) (some false))=some (rT lo hi):=by
    unfold rT
    by_cases g1:0 <= lo
    ·rw [aK (by simp; omega),decide_eq_true g1]
     by_cases g2:lo <= 255
     ·rw [aK (by simp; omega),decide_eq_true g2]
      by_cases g3:hi=-1
      ·subst g3; rfl
      ·rw [aF (by simp; omega),decide_eq_false g3]
       by_cases g4:lo <= hi
       ·by_cases g5:1 <= hi
        ·rw [aK (by simp; split <;> omega),decide_eq_true g4,decide_eq_true g5]; rfl
        ·rw [aF (by simp; split <;> omega),decide_eq_false g5,decide_eq_true g4]; rfl
       ·rw [aF (by simp; split <;> omega),decide_eq_false g4]; rfl
     ·rw [aF (by simp; omega),decide_eq_false g2,Bool.and_false,Bool.false_and]
    ·rw [aF (by simp; omega),decide_eq_false g1]; rfl
   rw [e]
   cases ht:rT lo hi
   ·refine Or.inr ⟨rfl,fun v hv=>?_⟩
    have e1:=congrArg (fun x:Nd=>x.2.2.2.2.1) hv
    have e2:=congrArg (fun x:Nd=>x.2.2.2.2.2.1) hv
    have e0:=congrArg (fun x:Nd=>x.1) hv
    cases v <;> simp [NV.node] at e0 e1 e2
    simp only [NV.ok]
    rw [<- e1,<- e2]; exact ht
   ·exact Or.inl ⟨rfl,.times a lo hi,h,ht⟩
  ·exact hbad (fun v hv=>by rw [hv]; cases v <;> simp [NV.node] at hv ⊢; exact ⟨hv.2.1.symm,hv.2.2.2.1.symm,hv.2.2.2.2.1.symm⟩) h
 ·rw [yKh,aQ]
  by_cases h:((7:Int),wd p,a,b,lo,hi,m,u)=((7,[0,0,0,0],a,0,0,0,m,u):Nd)
  ·rw [hgood h]
   rw [aF (by rfl),aF (by rfl),aK (by rfl),aK (by rfl)]
   by_cases g1:1 <= m
   ·rw [aK (by simp; omega)]
    by_cases g2:m <= 9
    ·obtain ⟨m',rfl⟩:∃ m':Nat,m=(m':Int):=⟨m.toNat,by omega⟩
     rw [decide_eq_true g2]
     exact Or.inl ⟨rfl,.group a m',h,by simp [NV.ok]; omega⟩
    ·rw [decide_eq_false g2]
     refine Or.inr ⟨rfl,fun v hv=>?_⟩
     have e1:=congrArg (fun x:Nd=>x.2.2.2.2.2.2.1) hv
     have e0:=congrArg (fun x:Nd=>x.1) hv
     cases v <;> simp [NV.node] at e0 e1
     simp [NV.ok]; omega
   ·rw [aF (by simp; omega)]
    refine Or.inr ⟨rfl,fun v hv=>?_⟩
    have e1:=congrArg (fun x:Nd=>x.2.2.2.2.2.2.1) hv
    have e0:=congrArg (fun x:Nd=>x.1) hv
    cases v <;> simp [NV.node] at e0 e1
    simp [NV.ok]; omega
  ·exact hbad (fun v hv=>by rw [hv]; cases v <;> simp [NV.node] at hv ⊢; exact ⟨hv.2.1.symm,hv.2.2.2.2.2.symm⟩) h
 ·rw [plain8,aQ]
  by_cases h:((8:Int),wd p,a,b,lo,hi,m,u)=((8,[0,0,0,0],0,0,0,0,m,u):Nd)
  ·rw [hgood h]
   rw [aF (by rfl),aF (by rfl),aF (by rfl),aK (by rfl)]
   by_cases g1:1 <= m
   ·rw [aK (by simp; omega)]
    by_cases g2:m <= 9
    ·obtain ⟨m',rfl⟩:∃ m':Nat,m=(m':Int):=⟨m.toNat,by omega⟩
     rw [decide_eq_true g2]
     exact Or.inl ⟨rfl,.ref m',h,by simp [NV.ok]; omega⟩
    ·rw [decide_eq_false g2]
     refine Or.inr ⟨rfl,fun v hv=>?_⟩
     have e1:=congrArg (fun x:Nd=>x.2.2.2.2.2.2.1) hv
     have e0:=congrArg (fun x:Nd=>x.1) hv
     cases v <;> simp [NV.node] at e0 e1
     simp [NV.ok]; omega
   ·rw [aF (by simp; omega)]
    refine Or.inr ⟨rfl,fun v hv=>?_⟩
    have e1:=congrArg (fun x:Nd=>x.2.2.2.2.2.2.1) hv
    have e0:=congrArg (fun x:Nd=>x.1) hv
    cases v <;> simp [NV.node] at e0 e1
    simp [NV.ok]; omega
  ·exact hbad (fun v hv=>by rw [hv]; cases v <;> simp [NV.node] at hv ⊢; exact hv.2.2.2.2.2.symm) h
end Go.Dec
namespace Go.Dec
def Pt.nv (o:Nat):Pt->NV
 | .empty=>.empty
 | .bytes p=>.bytes p
 | .bol=>.bol
 | .eol=>.eol
 | .cat a b=>.cat (a.top o) (b.top (o+a.sz))
 | .alt a b=>.alt (a.top o) (b.top (o+a.sz))
 | .times a lo hi=>.times (a.top o) lo hi
 | .group a m=>.group (a.top o) m
 | .ref m=>.ref m
def Pt.yDn (o:Nat):Pt->List Nd
 | .cat a b=>a.enc o++b.enc (o+a.sz)
 | .alt a b=>a.enc o++b.enc (o+a.sz)
 | .times a _ _=>a.enc o
 | .group a _=>a.enc o
 | _=>[]
theorem Pt.zJv (o:Nat) (t:Pt):t.enc o=t.yDn o++[(t.nv o).node]:=by
 cases t <;> rfl
theorem Pt.yDo (o:Nat) (t:Pt):(t.yDn o).length+1=t.sz:=by
 have:=t.dS o
 rw [t.zJv] at this
 simpa using this
theorem Pt.Ye (o:Nat) (t:Pt):(t.nv o).node.1=t.kind:=by cases t <;> rfl
def At (l:List Nd) (o:Nat) (t:Pt):Prop:=∃ pre post,l=pre++t.enc o++post∧pre.length=o
theorem At.node {l:List Nd} {o:Nat} {t:Pt} (h:At l o t):l[o+t.sz - 1]?=some (t.nv o).node:=by
 obtain ⟨pre,post,rfl,hp⟩:=h
 have hb:=t.yDo o
 rw [t.zJv,<- List.append_assoc,List.append_assoc,List.getElem?_append_right (by rw [List.length_append]; omega)]
 rw [List.length_append,show o+t.sz - 1 - (pre.length+(t.yDn o).length)=0 by omega]
 rfl
theorem At.len {l:List Nd} {o:Nat} {t:Pt} (h:At l o t):o+t.sz <= l.length:=by
 obtain ⟨pre,post,rfl,hp⟩:=h
 simp only [List.length_append,Pt.dS]; omega
theorem At.top {l:List Nd} {o:Nat} {t:Pt} (h:At l o t):inB (t.top o) l.length=true∧∀ d,aU d l (t.top o)=(t.nv o).node:=by
 have h1:=h.node
 have h2:=h.len
 have h3:=t.qP
 have e:t.top o=((o+t.sz - 1:Nat):Int):=by unfold Pt.top; omega
 rw [e]
 refine ⟨qW (by omega),fun d=>?_⟩
 rw [qN (by omega)]
 rw [List.getElem?_eq_getElem (by omega)] at h1
 exact Option.some.inj h1
theorem At.yKi {l:List Nd} {o:Nat} {a b:Pt} (h:At l o (.cat a b)):At l o a∧At l (o+a.sz) b:=by
 obtain ⟨pre,post,rfl,hp⟩:=h
 exact ⟨⟨pre,b.enc (o+a.sz)++([(Pt.nv o (.cat a b)).node]++post),by simp [Pt.enc,Pt.nv,NV.node],hp⟩,⟨pre++a.enc o,[(Pt.nv o (.cat a b)).node]++post,by simp [Pt.enc,Pt.nv,NV.node],by rw [List.length_append,Pt.dS,hp]⟩⟩
theorem At.alt1 {l:List Nd} {o:Nat} {a b:Pt} (h:At l o (.alt a b)):At l o a∧At l (o+a.sz) b:=by
 obtain ⟨pre,post,rfl,hp⟩:=h
 exact ⟨⟨pre,b.enc (o+a.sz)++([(Pt.nv o (.alt a b)).node]++post),by simp [Pt.enc,Pt.nv,NV.node],hp⟩,⟨pre++a.enc o,[(Pt.nv o (.alt a b)).node]++post,by simp [Pt.enc,Pt.nv,NV.node],by rw [List.length_append,Pt.dS,hp]⟩⟩
theorem At.yKj {l:List Nd} {o:Nat} {a:Pt} {lo hi:Int} (h:At l o (.times a lo hi)):At l o a:=by
 obtain ⟨pre,post,rfl,hp⟩:=h
 exact ⟨pre,[(Pt.nv o (.times a lo hi)).node]++post,by simp [Pt.enc,Pt.nv,NV.node],hp⟩
theorem At.yKk {l:List Nd} {o:Nat} {a:Pt} {m:Nat} (h:At l o (.group a m)):At l o a:=by
 obtain ⟨pre,post,rfl,hp⟩:=h
 exact ⟨pre,[(Pt.nv o (.group a m)).node]++post,by simp [Pt.enc,Pt.nv,NV.node],hp⟩
theorem At.self (t:Pt):At (t.enc 0) 0 t:=⟨[],[],by simp,rfl⟩
def jS:Pt->Bool
 | .bytes p=>!fJ p
 | .cat a b=>jS a && jS b
 | .alt a b=>jS a && jS b
 | .times a lo hi=>jS a && rT lo hi
 | .group a m=>jS a && (decide (1 <= m) && decide (m <= 9))
 | .ref m=>decide (1 <= m) && decide (m <= 9)
 | _=>true
def nM:Pt->Bool
 | .cat a b=>nM a && nM b && (decide (a.kind ≠ 4) && decide (a.kind ≠ 5) && decide (b.kind ≠ 5))
 | .alt a b=>nM a && nM b && decide (a.kind ≠ 5)
 | .times a _ _=>nM a && (decide (a.kind=1) || decide (a.kind=7) || decide (a.kind=8))
 | .group a _=>nM a
 | _=>true
def mY:Pt->Bool
 | .empty=>false
 | .cat a b=>mY a && mY b
 | .alt a b=>mY a && mY b
 | .times a _ _=>mY a
 | .group a _=>mY a
 | _=>true
def encR:List Pt->List Nd
 | []=>[]
 | t :: st=>encR st++t.enc (szA st)
def gK:List Pt->List Int
 | []=>[]
 | t :: st=>gK st++[t.top (szA st)]
theorem Dj:∀ st:List Pt,(encR st).length=szA st
 | []=>rfl
 | t :: st=>by simp only [encR,szA,List.length_append,Dj st,Pt.dS]; omega
theorem oL:∀ st:List Pt,(gK st).length=st.length
 | []=>rfl
 | t :: st=>by simp only [gK,List.length_append,oL st,List.length_cons,List.length_nil]
def jC (len:Nat) (st:List Pt) (v:NV):Option (List Pt) :=
 match v with
 | .empty=>if len > 1 then none else some (.empty :: st)
 | .bytes p=>some (.bytes p :: st)
 | .bol=>some (.bol :: st)
 | .eol=>some (.eol :: st)
 | .ref m=>some (.ref m :: st)
 | .cat x y=>match st with
  | b :: a :: st'=>if a.top (szA st')=x∧b.top (szA st'+a.sz)=y∧a.kind ≠ 4∧a.kind ≠ 5∧b.kind ≠ 5 then some (.cat a b :: st') else none
  | _=>none
 | .alt x y=>match st with
  | b :: a :: st'=>if a.top (szA st')=x∧b.top (szA st'+a.sz)=y∧a.kind ≠ 5 then some (.alt a b :: st') else none
  | _=>none
 | .times x lo hi=>match st with
  | a :: st'=>if a.top (szA st')=x∧(a.kind=1∨a.kind=7∨a.kind=8) then some (.times a lo hi :: st') else none
  | _=>none
 | .group x m=>match st with
  | a :: st'=>if a.top (szA st')=x then some (.group a m :: st') else none
  | _=>none
theorem Dk (st:List Pt) (a:Pt):szA (a :: st)=szA st+a.sz:=by simp only [szA]; omega
theorem Lm {len:Nat} {st st2:List Pt} {v:NV} (h:jC len st v=some st2):encR st2=encR st++[v.node]:=by
 unfold jC at h
 cases v <;> simp only at h
 case empty=>split at h <;> simp at h; subst h; rfl
 case bytes p=>simp at h; subst h; rfl
 case bol=>simp at h; subst h; rfl
 case eol=>simp at h; subst h; rfl
 case ref m=>simp at h; subst h; rfl
 case cat x y =>
  match st,h with
  | [],h=>simp at h
  | [_],h=>simp at h
  | b :: a :: st',h =>
   simp only at h
   split at h <;> simp at h
   rename_i hc
   subst h
   simp only [encR,Pt.enc,Dk,List.append_assoc,NV.node,hc.1,hc.2.1]
 case alt x y =>
  match st,h with
  | [],h=>simp at h
  | [_],h=>simp at h
  | b :: a :: st',h =>
   simp only at h
   split at h <;> simp at h
   rename_i hc
   subst h
   simp only [encR,Pt.enc,Dk,List.append_assoc,NV.node,hc.1,hc.2.1]
 case times x lo hi =>
  match st,h with
  | [],h=>simp at h
  | a :: st',h =>
   simp only at h
   split at h <;> simp at h
   rename_i hc
   subst h
   simp only [encR,Pt.enc,List.append_assoc,NV.node,hc.1]
 case group x m =>
  match st,h with
  | [],h=>simp at h
  | a :: st',h =>
   simp only at h
   split at h <;> simp at h
   rename_i hc
   subst h
   simp only [encR,Pt.enc,List.append_assoc,NV.node,hc]
def Ey (len:Nat) (t:Pt):Prop:=jS t=true∧nM t=true∧(len > 1->mY t=true)
theorem yDp {len:Nat} {st st2:List Pt} {v:NV} (hv:v.ok=true) (hst:∀ t ∈ st,Ey len t) (h:jC len st v=some st2):∀ t ∈ st2,Ey len t:=by
 unfold jC at h
 cases v <;> simp only at h
 case empty =>
  split at h <;> simp at h; subst h
  rename_i hl
  intro t ht
  rcases List.mem_cons.1 ht with rfl | ht
  ·exact ⟨rfl,rfl,fun h=>absurd h hl⟩
  ·exact hst t ht
 case bytes p=>simp at h; subst h; intro t ht; rcases List.mem_cons.1 ht with rfl | ht; exact ⟨hv,rfl,fun _=>rfl⟩; exact hst t ht
 case bol=>simp at h; subst h; intro t ht; rcases List.mem_cons.1 ht with rfl | ht; exact ⟨rfl,rfl,fun _=>rfl⟩; exact hst t ht
 case eol=>simp at h; subst h; intro t ht; rcases List.mem_cons.1 ht with rfl | ht; exact ⟨rfl,rfl,fun _=>rfl⟩; exact hst t ht
 case ref m=>simp at h; subst h; intro t ht; rcases List.mem_cons.1 ht with rfl | ht; exact ⟨hv,rfl,fun _=>rfl⟩; exact hst t ht
 case cat x y =>
  match st,h with
  | [],h=>simp at h
  | [_],h=>simp at h
  | b :: a :: st',h =>
   simp only at h
   split at h <;> simp at h
   rename_i hc
   subst h
   intro t ht
   have ha:=hst a (by simp)
   have hb:=hst b (by simp)
   rcases List.mem_cons.1 ht with rfl | ht
   ·exact ⟨by simp [jS,ha.1,hb.1],by simp [nM,ha.2.1,hb.2.1,hc.2.2.1,hc.2.2.2.1,hc.2.2.2.2],fun hl=>by simp [mY,ha.2.2 hl,hb.2.2 hl]⟩
   ·exact hst t (by simp [ht])
 case alt x y =>
  match st,h with
  | [],h=>simp at h
  | [_],h=>simp at h
  | b :: a :: st',h =>
   simp only at h
   split at h <;> simp at h
   rename_i hc
   subst h
   intro t ht
   have ha:=hst a (by simp)
   have hb:=hst b (by simp)
   rcases List.mem_cons.1 ht with rfl | ht
   ·exact ⟨by simp [jS,ha.1,hb.1],by simp [nM,ha.2.1,hb.2.1,hc.2.2],fun hl=>by simp [mY,ha.2.2 hl,hb.2.2 hl]⟩
   ·exact hst t (by simp [ht])
 case times x lo hi =>
  match st,h with
  | [],h=>simp at h
  | a :: st',h =>
   simp only at h
   split at h <;> simp at h
   rename_i hc
   subst h
   intro t ht
   have ha:=hst a (by simp)
   rcases List.mem_cons.1 ht with rfl | ht
   ·refine ⟨by simp only [jS,ha.1,Bool.true_and]; exact hv,?_,fun hl=>by simp [mY,ha.2.2 hl]⟩
    simp only [nM,ha.2.1,Bool.true_and,Bool.or_eq_true,decide_eq_true_eq]
    rcases hc.2 with h | h | h
    ·exact Or.inl (Or.inl h)
    ·exact Or.inl (Or.inr h)
    ·exact Or.inr h
   ·exact hst t (by simp [ht])
 case group x m =>
  match st,h with
  | [],h=>simp at h
  | a :: st',h =>
   simp only at h
   split at h <;> simp at h
   rename_i hc
   subst h
   intro t ht
   have ha:=hst a (by simp)
   rcases List.mem_cons.1 ht with rfl | ht
   ·exact ⟨by simp only [jS,ha.1,Bool.true_and]; exact hv,by simp [nM,ha.2.1],fun hl=>by simp [mY,ha.2.2 hl]⟩
   ·exact hst t (by simp [ht])
def pF (len:Nat):List NV->List Pt->Option (List Pt)
 | [],st=>some st
 | v :: vs,st=>match jC len st v with
  | none=>none
  | some st2=>pF len vs st2
theorem vT (len:Nat):∀ (a b:List NV) (st:List Pt),pF len (a++b) st=(pF len a st).bind (pF len b)
 | [],b,st=>rfl
 | v :: a,b,st=>by
  simp only [List.cons_append,pF]
  cases jC len st v with
  | none=>rfl
  | some st2=>exact vT len a b st2
def Pt.nvs (o:Nat):Pt->List NV
 | .cat a b=>a.nvs o++b.nvs (o+a.sz)++[.cat (a.top o) (b.top (o+a.sz))]
 | .alt a b=>a.nvs o++b.nvs (o+a.sz)++[.alt (a.top o) (b.top (o+a.sz))]
 | .times a lo hi=>a.nvs o++[.times (a.top o) lo hi]
 | .group a m=>a.nvs o++[.group (a.top o) m]
 | .empty=>[.empty]
 | .bytes p=>[.bytes p]
 | .bol=>[.bol]
 | .eol=>[.eol]
 | .ref m=>[.ref m]
theorem zO:∀ (t:Pt) (o:Nat),(t.nvs o).map NV.node=t.enc o
 | .cat a b,o=>by simp [Pt.nvs,Pt.enc,zO a,zO b,NV.node]
 | .alt a b,o=>by simp [Pt.nvs,Pt.enc,zO a,zO b,NV.node]
 | .times a _ _,o=>by simp [Pt.nvs,Pt.enc,zO a,NV.node]
 | .group a _,o=>by simp [Pt.nvs,Pt.enc,zO a,NV.node]
 | .empty,_ | .bytes _,_ | .bol,_ | .eol,_ | .ref _,_=>rfl
theorem Kc:∀ (t:Pt) (o:Nat),jS t=true->∀ v ∈ t.nvs o,v.ok=true
 | .cat a b,o,h,v,hv=>by
  simp only [jS,aG] at h
  simp only [Pt.nvs,List.mem_append,List.mem_singleton] at hv
  rcases hv with (hv | hv) | rfl
  ·exact Kc a o h.1 v hv
  ·exact Kc b _ h.2 v hv
  ·rfl
 | .alt a b,o,h,v,hv=>by
  simp only [jS,aG] at h
  simp only [Pt.nvs,List.mem_append,List.mem_singleton] at hv
  rcases hv with (hv | hv) | rfl
  ·exact Kc a o h.1 v hv
  ·exact Kc b _ h.2 v hv
  ·rfl
 | .times a lo hi,o,h,v,hv=>by
  simp only [jS,aG] at h
  simp only [Pt.nvs,List.mem_append,List.mem_singleton] at hv
  rcases hv with hv | rfl
  ·exact Kc a o h.1 v hv
  ·exact h.2
 | .group a m,o,h,v,hv=>by
  simp only [jS,aG] at h
  simp only [Pt.nvs,List.mem_append,List.mem_singleton] at hv
  rcases hv with hv | rfl
  ·exact Kc a o h.1 v hv
  ·simp only [NV.ok,aG]; exact h.2
 | .empty,_,h,v,hv=>by simp only [Pt.nvs,List.mem_singleton] at hv; subst hv; rfl
 | .bytes _,_,h,v,hv=>by simp only [Pt.nvs,List.mem_singleton] at hv; subst hv; exact h
 | .bol,_,h,v,hv=>by simp only [Pt.nvs,List.mem_singleton] at hv; subst hv; rfl
 | .eol,_,h,v,hv=>by simp only [Pt.nvs,List.mem_singleton] at hv; subst hv; rfl
 | .ref _,_,h,v,hv=>by simp only [Pt.nvs,List.mem_singleton] at hv; subst hv; exact h
theorem tC (len:Nat):∀ (t:Pt) (st:List Pt),nM t=true->(len > 1->mY t=true)->pF len (t.nvs (szA st)) st=some (t :: st)
 | .cat a b,st,h,hn=>by
  simp only [nM,aG,decide_eq_true_eq] at h
  simp only [mY,aG] at hn
  have ha:=tC len a st h.1.1 (fun hl=>(hn hl).1)
  have hb:=tC len b (a :: st) h.1.2 (fun hl=>(hn hl).2)
  rw [Dk] at hb
  simp only [Pt.nvs]
  rw [vT,vT,ha]
  simp only [Option.bind_some]
  rw [hb]
  simp only [Option.bind_some,pF,jC]
  rw [if_pos (by refine ⟨?_,?_,h.2.1.1,h.2.1.2,h.2.2⟩ <;> first | trivial | rfl)]
 | .alt a b,st,h,hn=>by
  simp only [nM,aG,decide_eq_true_eq] at h
  simp only [mY,aG] at hn
  have ha:=tC len a st h.1.1 (fun hl=>(hn hl).1)
  have hb:=tC len b (a :: st) h.1.2 (fun hl=>(hn hl).2)
  rw [Dk] at hb
  simp only [Pt.nvs]
  rw [vT,vT,ha]
  simp only [Option.bind_some]
  rw [hb]
  simp only [Option.bind_some,pF,jC]
  rw [if_pos (by refine ⟨?_,?_,h.2⟩ <;> first | trivial | rfl)]
 | .times a lo hi,st,h,hn=>by
  simp only [nM,aG,Bool.or_eq_true,decide_eq_true_eq] at h
  simp only [mY] at hn
  have ha:=tC len a st h.1 hn
  simp only [Pt.nvs]
  rw [vT,ha]
  simp only [Option.bind_some,pF,jC]
  rw [if_pos (by refine ⟨?_,by rcases h.2 with (h | h) | h; exact Or.inl h; exact Or.inr (Or.inl h); exact Or.inr (Or.inr h)⟩; first | trivial | rfl)]
 | .group a m,st,h,hn=>by
  simp only [nM] at h
  simp only [mY] at hn
  have ha:=tC len a st h hn
  simp only [Pt.nvs]
  rw [vT,ha]
  simp only [Option.bind_some,pF,jC]
  rw [if_pos (by first | trivial | rfl)]
 | .empty,st,h,hn=>by
  simp only [Pt.nvs,pF,jC]
  rw [if_neg (fun hl=>by simp [mY] at hn; omega)]
 | .bytes _,st,_,_=>rfl
 | .bol,st,_,_=>rfl
 | .eol,st,_,_=>rfl
 | .ref _,st,_,_=>rfl
end Go.Dec
namespace Go.Dec
theorem yKl {n:Nat} (hn:5 <= n) {k:Int} (hk:0 <= k) (hk8:k <= 8):oO n ([1,7,8],k)=some (decide (k=1) || decide (k=7) || decide (k=8)):=by
 obtain ⟨n,rfl⟩:∃ m,n=m+5:=⟨n - 5,by omega⟩
 have hcase:k=0∨k=1∨k=2∨k=3∨k=4∨k=5∨k=6∨k=7∨k=8:=by omega
 rcases hcase with rfl | rfl | rfl | rfl | rfl | rfl | rfl | rfl | rfl <;> rfl
theorem zPz (t:Pt):0 <= t.kind∧t.kind <= 8:=by cases t <;> simp [Pt.kind]
section
variable {n:Nat} {l:List Nd} {st:List Pt}
theorem zZw {i:Nat} {a b:Pt} (h:encR (b :: a :: st)=l.take i):At l (szA st) a∧At l (szA st+a.sz) b:=by
 have hl:l=encR (b :: a :: st)++l.drop i:=by rw [h,List.take_append_drop]
 simp only [encR] at hl
 refine ⟨⟨encR st,b.enc (szA st+a.sz)++l.drop i,?_,Dj st⟩,⟨encR st++a.enc (szA st),l.drop i,?_,by rw [List.length_append,Dj,Pt.dS]⟩⟩
 ·rw [Dk] at hl; rw [List.append_assoc] at hl ⊢; rw [List.append_assoc] at hl; exact hl
 ·rw [Dk] at hl; exact hl
theorem at_one {i:Nat} {a:Pt} (h:encR (a :: st)=l.take i):At l (szA st) a:=by
 have hl:l=encR (a :: st)++l.drop i:=by rw [h,List.take_append_drop]
 exact ⟨encR st,l.drop i,hl,Dj st⟩
theorem zP {v:NV} (h:v.node.1 ≠ 4) (h2:v.node.1 ≠ 5) (h3:v.node.1 ≠ 6):kM n (l,v.node)=some true:=by
 unfold kM
 simp only
 rw [aF (by simpa using h),aF (by simpa using h2),aF (by simpa using h3)]
theorem yDq {oa ob':Nat} {a b:Pt} (ha:At l oa a) (hb:At l ob' b):kM n (l,(NV.cat (a.top oa) (b.top ob')).node)=some (decide (a.kind ≠ 4∧a.kind ≠ 5∧b.kind ≠ 5)):=by
 unfold kM
 simp only [NV.node]
 rw [aK (by rfl),aD ha.top.1,ha.top.2,Pt.Ye,aD ha.top.1,aD hb.top.1,hb.top.2,Pt.Ye]
 by_cases h1:a.kind=4
 ·rw [aF (by simp [h1]),decide_eq_false (by intro h; exact h.1 h1)]
 ·rw [aK (by simpa using h1)]
  by_cases h2:a.kind=5
  ·rw [aF (by simp [h2]),decide_eq_false (by intro h; exact h.2.1 h2)]
  ·rw [aK (by simpa using h2)]
   congr 1
   rw [Bool.eq_iff_iff]; simp [h1,h2]
theorem yDr {oa:Nat} {y:Int} {a:Pt} (ha:At l oa a):kM n (l,(NV.alt (a.top oa) y).node)=some (decide (a.kind ≠ 5)):=by
 unfold kM
 simp only [NV.node]
 rw [aF (by rfl),aK (by rfl),aD ha.top.1,ha.top.2,Pt.Ye]
 congr 1
 rw [Bool.eq_iff_iff]; simp
theorem zXe {oa:Nat} {lo hi:Int} {a:Pt} (hn:5 <= n) (ha:At l oa a):kM n (l,(NV.times (a.top oa) lo hi).node)=some (decide (a.kind=1) || decide (a.kind=7) || decide (a.kind=8)):=by
 unfold kM
 simp only [NV.node]
 rw [aF (by rfl),aF (by rfl),aK (by rfl),aD ha.top.1,ha.top.2,Pt.Ye,yKl hn (zPz a).1 (zPz a).2]
 rfl
def NV.parts:NV->Nat
 | .cat _ _ | .alt _ _=>2
 | .times _ _ _ | .group _ _=>1
 | _=>0
theorem parts_eq (v:NV):iM n v.node=some (v.parts:Int):=by cases v <;> rfl
theorem zIa (a:Pt):(gK (a :: st)).take st.length=gK st:=by
 simp only [gK]; rw [List.take_append_of_le_length (by rw [oL]; omega),List.take_of_length_le (by rw [oL]; omega)]
theorem zQa (a b:Pt):(gK (b :: a :: st)).take st.length=gK st:=by
 rw [gK,List.take_append_of_le_length (by rw [oL]; simp),zIa]
theorem zIb (a:Pt):(gK (a :: st)).getD (0+st.length+0) 0=a.top (szA st):=by
 rw [gK,List.getD_eq_getElem?_getD,List.getElem?_append_right (by rw [oL]; omega),oL]; simp
theorem zQb (a b:Pt):(gK (b :: a :: st)).getD (0+st.length+0) 0=a.top (szA st):=by
 rw [gK,List.getD_eq_getElem?_getD,iE (by rw [oL]; simp),<- List.getD_eq_getElem?_getD,zIb]
theorem zQc (a b:Pt):(gK (b :: a :: st)).getD (0+st.length+1) 0=b.top (szA st+a.sz):=by
 rw [gK,List.getD_eq_getElem?_getD,List.getElem?_append_right (by rw [oL]; simp),oL,Dk]; simp
theorem zQd {g:List Nd × List Nd × Int × Int × List Int × Unit->Option Bool} {i:Nat} {v:NV} (hn:5 <= n) (hl:l.length < 1000000) (hi:i < l.length) (hv:l[i]?=some v.node) (hok:v.ok=true) (hw:Ws v.node) (hst:st.length <= i) (hsz:szA st=i) (he:encR st=l.take i) :
  gV n g (l,l,(l.length:Int),(i:Int),gK st,())=match jC l.length st v with
   | none=>some false
   | some st2=>g (l,l,(l.length:Int),((i+1:Nat):Int),gK st2,()):=by
 unfold gV
 simp only
 have hget:∀ d,aU d l (i:Int)=v.node:=by
  intro d
  rw [qN hi]
  rw [List.getElem?_eq_getElem hi] at hv
  exact Option.some.inj hv
 rw [aK (by simp; omega),aD (qW hi),hget,parts_eq]
 simp only [aQ]
 have hone:qZ n v.node=some true:=by
  rcases zPy (n:=n) hw with ⟨h,_⟩ | ⟨_,h⟩
  ·exact h
  ·have:=h v rfl; rw [hok] at this; exact absurd this (by simp)
 rw [hone]
 simp only [aQ,Bool.not_true,bC]
 have hi1:IntKind.wrap .i64 ((i:Int)+1)=((i+1:Nat):Int):=by rw [bD (by omega) (by omega)]; rfl
 have hlen:=oL st
 have hfin:∀ (v0:NV) (k:Nat) (st2:List Pt),k <= st.length->gK st2=(gK st).take k++[(i:Int)] ->
   chk ((decide ((0:Int) <= (k:Int)) && decide ((k:Int) <= (st.length:Int)))) (
     chk ((Nat.ble ((k:Int).toNat) st.length && Nat.ble ((((k:Int).toNat)+([(i:Int)]:List Int).length) * 8) room)) (
      g (l,l,(l.length:Int),IntKind.wrap .i64 ((i:Int)+1),(gK st).take ((k:Int).toNat)++[(i:Int)],())))=g (l,l,(l.length:Int),((i+1:Nat):Int),gK st2,()):=by
  intro v0 k st2 hk h2
  rw [aD (by simp; omega),aD (by simp [room]; omega),hi1,Int.toNat_natCast,h2]
 have hd:Ty.dflt (.int .i64)=(0:Int):=rfl
 have hK:∀ (p:Nat),p <= st.length->IntKind.wrap .i64 (((st.length:Nat):Int) - (p:Int))=((st.length - p:Nat):Int):=by
  intro p hp; rw [bD (by omega) (by omega)]; omega
 have htop:∀ t:Pt,t.sz=1->gK (t :: st)=(gK st).take st.length++[(i:Int)]:=by
  intro t ht
  rw [List.take_of_length_le (by omega)]
  simp only [gK,Pt.top,ht,hsz]; congr 2; omega
 rw [hlen]
 have hcut:∀ (p:Nat),p <= st.length->((st.length - ((st.length - p:Nat):Int).toNat:Nat):Int)=(p:Int):=by
  intro p hp; rw [Int.toNat_natCast]; omega
 cases v with
 | empty =>
  rw [show (NV.empty).parts=0 from rfl,hK 0 (by omega),aF (by simp),aK (by rfl)]
  by_cases h1:l.length > 1
  ·rw [aK (by simp; omega)]; simp only [jC]; rw [if_pos h1]
  ·rw [aF (by simp; omega),aD (by simp),hcut 0 (by omega),aF (by simp),zP (by simp [NV.node]) (by simp [NV.node]) (by simp [NV.node])]
   simp only [aQ,Bool.not_true,bC,jC]
   rw [if_neg h1]
   exact hfin .empty _ _ (by omega) (htop .empty rfl)
 | bytes p =>
  rw [show (NV.bytes p).parts=0 from rfl,hK 0 (by omega),aF (by simp),aF (by rfl),aD (by simp),hcut 0 (by omega),aF (by simp),zP (by simp [NV.node]) (by simp [NV.node]) (by simp [NV.node])]
  simp only [aQ,Bool.not_true,bC,jC]
  exact hfin .empty _ _ (by omega) (htop (.bytes p) rfl)
 | bol =>
  rw [show (NV.bol).parts=0 from rfl,hK 0 (by omega),aF (by simp),aF (by rfl),aD (by simp),hcut 0 (by omega),aF (by simp),zP (by simp [NV.node]) (by simp [NV.node]) (by simp [NV.node])]
  simp only [aQ,Bool.not_true,bC,jC]
  exact hfin .empty _ _ (by omega) (htop .bol rfl)
 | eol =>
  rw [show (NV.eol).parts=0 from rfl,hK 0 (by omega),aF (by simp),aF (by rfl),aD (by simp),hcut 0 (by omega),aF (by simp),zP (by simp [NV.node]) (by simp [NV.node]) (by simp [NV.node])]
  simp only [aQ,Bool.not_true,bC,jC]
  exact hfin .empty _ _ (by omega) (htop .eol rfl)
 | ref m =>
  rw [show (NV.ref m).parts=0 from rfl,hK 0 (by omega),aF (by simp),aF (by rfl),aD (by simp),hcut 0 (by omega),aF (by simp),zP (by simp [NV.node]) (by simp [NV.node]) (by simp [NV.node])]
  simp only [aQ,Bool.not_true,bC,jC]
  exact hfin .empty _ _ (by omega) (htop (.ref m) rfl)
 | times x lo hi =>
  cases st with
  | nil=>rfl
  | cons a st =>
   have ha:At l (szA st) a:=at_one he
   rw [show (NV.times x lo hi).parts=1 from rfl,hK 1 (by simp),aF (by simp),aF (by rfl),aD (by simp; omega),hcut 1 (by simp),aK (by rfl)]
   simp only [List.length_cons,Nat.add_sub_cancel,Int.toNat_natCast]
   rw [aD (by simp [inB]),aD (by simp),hd,show (0:Int).toNat=0 from rfl,zIb]
   simp only [jC,NV.node]
   by_cases hx:a.top (szA st)=x
   ·subst hx
    rw [aF (by simp),aF (by rfl)]
    have hf:=zXe (n:=n) (lo:=lo) (hi:=hi) hn ha
    simp only [NV.node] at hf
    rw [hf]
    simp only [aQ]
    have hlt:=a.qP
    by_cases hk:a.kind=1∨a.kind=7∨a.kind=8
    ·rw [if_pos ⟨trivial,hk⟩,aF (by rcases hk with h | h | h <;> simp [h])]
     have e:gK (.times a lo hi :: st)=(gK (a :: st)).take st.length++[(i:Int)]:=by
      rw [zIa]; simp only [gK,Pt.top,Pt.sz]; rw [Dk] at hsz; congr 2; omega
     have:=hfin .empty st.length (.times a lo hi :: st) (by simp) e
     simpa using this
    ·rw [if_neg (fun h=>hk h.2),aK (by simp only [not_or] at hk; simp [hk.1,hk.2.1,hk.2.2])]
   ·rw [if_neg (fun h=>hx h.1),aK (by simpa using hx)]
 | group x m =>
  cases st with
  | nil=>rfl
  | cons a st =>
   have ha:At l (szA st) a:=at_one he
   rw [show (NV.group x m).parts=1 from rfl,hK 1 (by simp),aF (by simp),aF (by rfl),aD (by simp; omega),hcut 1 (by simp),aK (by rfl)]
   simp only [List.length_cons,Nat.add_sub_cancel,Int.toNat_natCast]
   rw [aD (by simp [inB]),aD (by simp),hd,show (0:Int).toNat=0 from rfl,zIb]
   simp only [jC,NV.node]
   by_cases hx:a.top (szA st)=x
   ·subst hx
    rw [aF (by simp),aF (by rfl)]
    have hf:=zP (n:=n) (l:=l) (v:=.group (a.top (szA st)) m) (by simp [NV.node]) (by simp [NV.node]) (by simp [NV.node])
    simp only [NV.node] at hf
    rw [hf]
    simp only [aQ]
    have hlt:=a.qP
    rw [if_pos trivial,aF (by rfl)]
    have e:gK (.group a m :: st)=(gK (a :: st)).take st.length++[(i:Int)]:=by
     rw [zIa]; simp only [gK,Pt.top,Pt.sz]; rw [Dk] at hsz; congr 2; omega
    have:=hfin .empty st.length (.group a m :: st) (by simp) e
    simpa using this
   ·rw [if_neg hx,aK (by simpa using hx)]
 | cat x y =>
  match st,hlen,hsz,he,hst,hK,hcut,hfin with
  | [],_,_,_,_,_,_,_=>rfl
  | [_],_,_,_,_,_,_,_=>rfl
  | b :: a :: st,hlen,hsz,he,hst,hK,hcut,hfin =>
   obtain ⟨ha,hb⟩:=zZw he
   rw [show (NV.cat x y).parts=2 from rfl,hK 2 (by simp),aF (by simp),aF (by rfl),aD (by simp; omega),hcut 2 (by simp),aK (by rfl)]
   simp only [List.length_cons,Nat.add_sub_cancel,Int.toNat_natCast,show ∀ k,k+1+1 - 2=k from fun k=>rfl]
   rw [aD (by simp [inB]; omega),aD (by simp; omega),hd,show (0:Int).toNat=0 from rfl,show (1:Int).toNat=1 from rfl,zQb,zQc]
   simp only [jC,NV.node]
   by_cases hx:a.top (szA st)=x
   ·subst hx
    rw [aF (by simp),aK (by rfl),aD (by simp [inB]; omega),aD (by simp)]
    by_cases hy:b.top (szA st+a.sz)=y
    ·subst hy
     rw [aF (by simp)]
     have hf:=yDq (n:=n) ha hb
     simp only [NV.node] at hf
     rw [hf]
     simp only [aQ]
     have hlt:=a.qP
     by_cases hk:a.kind ≠ 4∧a.kind ≠ 5∧b.kind ≠ 5
     ·rw [if_pos ⟨trivial,trivial,hk⟩,decide_eq_true hk,aF (by rfl)]
      have e:gK (.cat a b :: st)=(gK (b :: a :: st)).take st.length++[(i:Int)]:=by
       rw [zQa]; simp only [gK,Pt.top,Pt.sz]; rw [Dk,Dk] at hsz; congr 2; omega
      have:=hfin .empty st.length (.cat a b :: st) (by simp; omega) e
      simpa using this
     ·rw [if_neg (fun h=>hk h.2.2),decide_eq_false hk,aK (by rfl)]
    ·rw [if_neg (fun h=>hy h.2.1),aK (by simpa using hy)]
   ·rw [if_neg (fun h=>hx h.1),aK (by simpa using hx)]
 | alt x y =>
  match st,hlen,hsz,he,hst,hK,hcut,hfin with
  | [],_,_,_,_,_,_,_=>rfl
  | [_],_,_,_,_,_,_,_=>rfl
  | b :: a :: st,hlen,hsz,he,hst,hK,hcut,hfin =>
   obtain ⟨ha,hb⟩:=zZw he
   rw [show (NV.alt x y).parts=2 from rfl,hK 2 (by simp),aF (by simp),aF (by rfl),aD (by simp; omega),hcut 2 (by simp),aK (by rfl)]
   simp only [List.length_cons,Nat.add_sub_cancel,Int.toNat_natCast,show ∀ k,k+1+1 - 2=k from fun k=>rfl]
   rw [aD (by simp [inB]; omega),aD (by simp; omega),hd,show (0:Int).toNat=0 from rfl,show (1:Int).toNat=1 from rfl,zQb,zQc]
   simp only [jC,NV.node]
   by_cases hx:a.top (szA st)=x
   ·subst hx
    rw [aF (by simp),aK (by rfl),aD (by simp [inB]; omega),aD (by simp)]
    by_cases hy:b.top (szA st+a.sz)=y
    ·subst hy
     rw [aF (by simp)]
     have hf:=yDr (n:=n) (y:=b.top (szA st+a.sz)) ha
     simp only [NV.node] at hf
     rw [hf]
     simp only [aQ]
     have hlt:=a.qP
     by_cases hk:a.kind ≠ 5
     ·rw [if_pos ⟨trivial,trivial,hk⟩,decide_eq_true hk,aF (by rfl)]
      have e:gK (.alt a b :: st)=(gK (b :: a :: st)).take st.length++[(i:Int)]:=by
       rw [zQa]; simp only [gK,Pt.top,Pt.sz]; rw [Dk,Dk] at hsz; congr 2; omega
      have:=hfin .empty st.length (.alt a b :: st) (by simp; omega) e
      simpa using this
     ·rw [if_neg (fun h=>hk h.2.2),decide_eq_false hk,aK (by rfl)]
    ·rw [if_neg (fun h=>hy h.2.1),aK (by simpa using hy)]
   ·rw [if_neg (fun h=>hx h.1),aK (by simpa using hx)]
end
end Go.Dec
namespace Go.Dec
theorem zQe:∀ st:List Pt,st.length <= szA st
 | []=>aX _
 | t :: st=>by have:=zQe st; have:=t.qP; simp only [List.length_cons,szA]; omega
theorem zQf {len:Nat} {st st2:List Pt} {v:NV} (h:jC len st v=some st2):szA st2=szA st+1:=by
 have:=congrArg List.length (Lm h)
 rw [List.length_append,Dj,Dj] at this
 simpa using this
section
variable {n:Nat} {l:List Nd}
theorem Wu {i:Nat} {x:Nd} (h:l[i]?=some x):l.take (i+1)=l.take i++[x]:=by
 rw [List.take_add_one,h]; rfl
theorem zTh (hn:5 <= n) (hl:l.length < 1000000) (hw:∀ nd ∈ l,Ws nd):∀ (vs:List NV) (i:Nat) (st:List Pt) (m:Nat),vs.map NV.node=l.drop i->(∀ v ∈ vs,v.ok=true)->i <= l.length->szA st=i->encR st=l.take i->vs.length < m ->
  fix (gV n) m (l,l,(l.length:Int),(i:Int),gK st,())=match pF l.length vs st with
   | none=>some false
   | some st2=>some (decide (st2.length=1)):=by
 intro vs
 induction vs with
 | nil =>
  intro i st m hvs _ hi hsz he hm
  have hi2:i=l.length:=by
   have:=congrArg List.length hvs
   rw [List.length_drop] at this; simp at this; omega
  rw [dL hm,gV]
  simp only
  rw [aF (by simp; omega),oL]
  simp only [pF]
  congr 1
  rw [Bool.eq_iff_iff]; simp; omega
 | cons v vs ih =>
  intro i st m hvs hok hi hsz he hm
  have hil:i < l.length:=by
   have:=congrArg List.length hvs
   rw [List.length_drop] at this; simp at this; omega
  have hv:l[i]?=some v.node:=by
   have:(l.drop i)[0]?=some v.node:=by rw [<- hvs]; rfl
   rw [List.getElem?_drop] at this; simpa using this
  have yOf:vs.map NV.node=l.drop (i+1):=by
   have:(l.drop i).drop 1=vs.map NV.node:=by rw [<- hvs]; rfl
   rw [List.drop_drop] at this; exact this.symm
  have hst:=zQe st
  rw [dL (by omega),zQd hn hl hil hv (hok v (by simp)) (hw _ (List.mem_of_getElem? hv)) (by omega) hsz he]
  simp only [pF]
  cases hs:jC l.length st v with
  | none=>rfl
  | some st2 =>
   simp only
   exact ih (i+1) st2 (m - 1) yOf (fun v hv=>hok v (by simp [hv])) (by omega) (by rw [zQf hs]; omega) (by rw [Lm hs,he,Wu hv]) (by simp only [List.length_cons] at hm; omega)
theorem yGq (hn:5 <= n) (hl:l.length < 1000000) (hw:∀ nd ∈ l,Ws nd) {j:Nat} {x:Nd} (hj:l[j]?=some x) (hx:∀ v:NV,x=v.node->v.ok=false):∀ (k i:Nat) (st:List Pt) (m:Nat),i+k=j->szA st=i->encR st=l.take i->k < m ->
  fix (gV n) m (l,l,(l.length:Int),(i:Int),gK st,())=some false:=by
 have hjl:j < l.length:=(bI.1 hj).1
 intro k
 induction k with
 | zero =>
  intro i st m hi hsz he hm
  have hi:i=j:=by omega
  subst hi
  rw [dL hm,gV]
  simp only
  have hget:∀ d,aU d l (i:Int)=x:=by
   intro d
   rw [qN hjl]
   rw [List.getElem?_eq_getElem hjl] at hj
   exact Option.some.inj hj
  rw [aK (by simp; omega),aD (qW hjl),hget]
  have hone:qZ n x=some false:=by
   rcases zPy (n:=n) (hw x (List.mem_of_getElem? hj)) with ⟨_,v,h1,h2⟩ | ⟨h,_⟩
   ·rw [hx v h1] at h2; exact absurd h2 (by simp)
   ·exact h
  rw [hone]
  have hp:∃ p,iM n x=some p:=by
   unfold iM
   simp only
   cases (x.1 == 4) <;> cases (x.1 == 5) <;> cases (x.1 == 6) <;> cases (x.1 == 7) <;> exact ⟨_,rfl⟩
  obtain ⟨p,hp⟩:=hp
  rw [hp]; rfl
 | succ k ih =>
  intro i st m hi hsz he hm
  have hil:i < l.length:=by omega
  have hli:l[i]?=some l[i]:=List.getElem?_eq_getElem hil
  have hst:=zQe st
  rcases zPy (n:=n) (hw _ (List.mem_of_getElem? hli)) with ⟨_,v,h1,h2⟩ | ⟨h,_⟩
  ·rw [h1] at hli
   rw [dL (by omega),zQd hn hl hil hli h2 (hw _ (List.mem_of_getElem? hli)) (by omega) hsz he]
   cases hs:jC l.length st v with
   | none=>rfl
   | some st2 =>
    simp only
    exact ih (i+1) st2 (m - 1) (by omega) (by rw [zQf hs]; omega) (by rw [Lm hs,he,Wu hli]) (by omega)
  ·rw [dL (by omega),gV]
   simp only
   have hget:∀ d,aU d l (i:Int)=l[i]:=fun d=>qN hil
   rw [aK (by simp; omega),aD (qW hil),hget,h]
   have hp:∃ p,iM n l[i]=some p:=by
    unfold iM
    simp only
    cases (l[i].1 == 4) <;> cases (l[i].1 == 5) <;> cases (l[i].1 == 6) <;> cases (l[i].1 == 7) <;> exact ⟨_,rfl⟩
   obtain ⟨p,hp⟩:=hp
   rw [hp]; rfl
theorem zJw {len:Nat}:∀ (vs:List NV) (st st2:List Pt),(∀ v ∈ vs,v.ok=true)->(∀ t ∈ st,Ey len t)->pF len vs st=some st2->encR st2=encR st++vs.map NV.node∧∀ t ∈ st2,Ey len t
 | [],st,st2,_,hst,h=>by simp only [pF,aA] at h; subst h; exact ⟨by simp,hst⟩
 | v :: vs,st,st2,hv,hst,h=>by
  simp only [pF] at h
  cases hs:jC len st v with
  | none=>rw [hs] at h; simp at h
  | some st3 =>
   rw [hs] at h
   have:=zJw vs st3 st2 (fun v h=>hv v (by simp [h])) (yDp (hv v (by simp)) hst hs) h
   exact ⟨by rw [this.1,Lm hs,List.append_assoc]; rfl,this.2⟩
theorem zFq:∀ l:List Nd,(∃ vs:List NV,vs.map NV.node=l∧∀ v ∈ vs,v.ok=true)∨(∃ (j:Nat) (x:Nd),l[j]?=some x∧∀ v:NV,x=v.node->v.ok=false)
 | []=>Or.inl ⟨[],rfl,by simp⟩
 | x :: l=>by
  by_cases hx:∃ v:NV,x=v.node∧v.ok=true
  ·obtain ⟨v,h1,h2⟩:=hx
   rcases zFq l with ⟨vs,h3,h4⟩ | ⟨j,y,h3,h4⟩
   ·exact Or.inl ⟨v :: vs,by rw [List.map_cons,h3,h1],by intro u hu; rcases List.mem_cons.1 hu with rfl | hu; exact h2; exact h4 u hu⟩
   ·exact Or.inr ⟨j+1,y,by simpa using h3,h4⟩
  ·exact Or.inr ⟨0,x,rfl,fun v hv=>by
    cases h:v.ok
    ·rfl
    ·exact absurd ⟨v,hv,h⟩ hx⟩
theorem zXf (hn:5 <= n) (hnl:l.length < n) (hl:l.length < 1000000) (hw:∀ nd ∈ l,Ws nd) :
  (wC n l=some true∧∃ t,l=t.enc 0∧Ey l.length t)∨(wC n l=some false∧∀ t,l=t.enc 0->¬ Ey l.length t):=by
 unfold wC
 simp only
 have hcomp:∀ t,l=t.enc 0->Ey l.length t->fix (gV n) n (l,l,(l.length:Int),0,[],())=some true:=by
  intro t ht hk
  have hm:(t.nvs 0).map NV.node=l.drop 0:=by rw [zO,ht]; rfl
  have hvl:(t.nvs 0).length=l.length:=by have:=congrArg List.length hm; simpa using this
  have:=zTh hn hl hw (t.nvs 0) 0 [] n hm (Kc t 0 hk.1) (by omega) rfl (by rfl) (by omega)
  have hf:=tC l.length t [] hk.2.1 hk.2.2
  rw [show szA []=0 from rfl] at hf
  rw [hf] at this
  exact this
 rcases zFq l with ⟨vs,h1,h2⟩ | ⟨j,x,h1,h2⟩
 ·have hvl:vs.length=l.length:=by have:=congrArg List.length h1; simpa using this
  have hN:=zTh hn hl hw vs 0 [] n (by rw [h1]; rfl) h2 (by omega) rfl (by rfl) (by omega)
  rw [show ((0:Nat):Int)=0 from rfl,show gK []=[] from rfl] at hN
  cases hf:pF l.length vs [] with
  | none =>
   rw [hf] at hN
   refine Or.inr ⟨hN,fun t ht hk=>?_⟩
   have:=hcomp t ht hk
   rw [hN] at this; simp at this
  | some st2 =>
   rw [hf] at hN
   obtain ⟨ho1,ho2⟩:=zJw vs [] st2 h2 (by simp) hf
   by_cases h1l:st2.length=1
   ·match st2,h1l with
    | [t],_ =>
     refine Or.inl ⟨hN,t,?_,ho2 t (by simp)⟩
     simp only [encR,szA,List.nil_append,h1] at ho1
     exact ho1.symm
   ·simp only [decide_eq_false h1l] at hN
    refine Or.inr ⟨hN,fun t ht hk=>?_⟩
    have:=hcomp t ht hk
    rw [hN] at this; simp at this
 ·have hjl:j < l.length:=(bI.1 h1).1
  have hB:=yGq hn hl hw h1 h2 j 0 [] n (by omega) rfl rfl (by omega)
  refine Or.inr ⟨hB,fun t ht hk=>?_⟩
  have:=hcomp t ht hk
  rw [show ((0:Nat):Int)=0 from rfl,show gK []=[] from rfl] at hB
  rw [hB] at this; simp at this
end
abbrev W4:Type:=Nat × Bool × List Bool × Bool
def fG:Pt->W4->W4
 | .cat a b,w=>fG b (fG a w)
 | .alt a b,w=>fG b (fG a w)
 | .times a _ _,w=>fG a w
 | .group a m,w=>((fG a (w.1+1,w.2.1 && decide (m=w.1+1),w.2.2.1,w.2.2.2)).1,(fG a (w.1+1,w.2.1 && decide (m=w.1+1),w.2.2.1,w.2.2.2)).2.1,(fG a (w.1+1,w.2.1 && decide (m=w.1+1),w.2.2.1,w.2.2.2)).2.2.1.set m true,(fG a (w.1+1,w.2.1 && decide (m=w.1+1),w.2.2.1,w.2.2.2)).2.2.2)
 | .ref m,w=>(w.1,w.2.1 && w.2.2.1.getD m false,w.2.2.1,true)
 | _,w=>w
theorem tF:∀ (t:Pt) (w:W4),(fG t w).2.2.1.length=w.2.2.1.length
 | .cat a b,w=>by simp only [fG]; rw [tF b,tF a]
 | .alt a b,w=>by simp only [fG]; rw [tF b,tF a]
 | .times a _ _,w=>by simp only [fG]; rw [tF a]
 | .group a m,w=>by simp only [fG,List.length_set]; rw [tF a]
 | .ref m,w=>rfl
 | .empty,w | .bol,w | .eol,w | .bytes _,w=>rfl
theorem Ez:∀ (t:Pt) (w:W4),(fG t w).1 <= w.1+t.sz
 | .cat a b,w=>by simp only [fG,Pt.sz]; have:=Ez b (fG a w); have:=Ez a w; omega
 | .alt a b,w=>by simp only [fG,Pt.sz]; have:=Ez b (fG a w); have:=Ez a w; omega
 | .times a _ _,w=>by simp only [fG,Pt.sz]; have:=Ez a w; omega
 | .group a m,w=>by simp only [fG,Pt.sz]; have:=Ez a (w.1+1,w.2.1 && decide (m=w.1+1),w.2.2.1,w.2.2.2); simp only at this; omega
 | .ref m,w=>by simp only [fG]; omega
 | .empty,w | .bol,w | .eol,w | .bytes _,w=>by simp only [fG]; omega
def W4.out (l:List Nd) (w:W4):Option (List Nd × Int × Bool × List Bool × Bool × Unit):=some (l,(w.1:Int),w.2.1,w.2.2.1,w.2.2.2,())
theorem Rw {l:List Nd} (hl:l.length < 1000000):∀ (t:Pt) (o m:Nat) (w:W4),At l o t->jS t=true->t.sz <= m->w.1+t.sz < 1000000->w.2.2.1.length=10 ->
  mX m (t.top o,l,(w.1:Int),w.2.1,w.2.2.1,w.2.2.2,())=W4.out l (fG t w):=by
 intro t
 have start:∀ {t:Pt} {o m:Nat} {x:List Nd × Int × Bool × List Bool × Bool × Unit},At l o t->mX (m+1) (t.top o,x)=dR m (mX m) (t.top o,x):=fun _=>rfl
 induction t with
 | empty =>
  intro o m w h hf hm hg he
  obtain ⟨m,rfl⟩:∃ k,m=k+1:=⟨m - 1,by simp only [Pt.sz] at hm; omega⟩
  rw [start h]; unfold dR; simp only
  rw [aD h.top.1,h.top.2]; rfl
 | bytes p =>
  intro o m w h hf hm hg he
  obtain ⟨m,rfl⟩:∃ k,m=k+1:=⟨m - 1,by simp only [Pt.sz] at hm; omega⟩
  rw [start h]; unfold dR; simp only
  rw [aD h.top.1,h.top.2]; rfl
 | bol =>
  intro o m w h hf hm hg he
  obtain ⟨m,rfl⟩:∃ k,m=k+1:=⟨m - 1,by simp only [Pt.sz] at hm; omega⟩
  rw [start h]; unfold dR; simp only
  rw [aD h.top.1,h.top.2]; rfl
 | eol =>
  intro o m w h hf hm hg he
  obtain ⟨m,rfl⟩:∃ k,m=k+1:=⟨m - 1,by simp only [Pt.sz] at hm; omega⟩
  rw [start h]; unfold dR; simp only
  rw [aD h.top.1,h.top.2]; rfl
 | ref k =>
  intro o m w h hf hm hg he
  obtain ⟨m,rfl⟩:∃ k,m=k+1:=⟨m - 1,by simp only [Pt.sz] at hm; omega⟩
  simp only [jS,aG,decide_eq_true_eq] at hf
  rw [start h]; unfold dR; simp only
  rw [aD h.top.1,h.top.2]
  simp only [Pt.nv,NV.node]
  rw [aF (by rfl),aF (by rfl),aF (by rfl),aF (by rfl),aK (by rfl),aD (qW (i:=k) (n:=10) (by omega)),aD (by exact decide_eq_true (show k < 10 by omega))]
  simp only [fG,W4.out,Int.toNat_natCast]
  cases w.2.1 <;> rfl
 | cat a b iha ihb =>
  intro o m w h hf hm hg he
  obtain ⟨m,rfl⟩:∃ k,m=k+1:=⟨m - 1,by simp only [Pt.sz] at hm; omega⟩
  simp only [jS,aG] at hf
  simp only [Pt.sz] at hm hg
  rw [start h]; unfold dR; simp only
  rw [aD h.top.1,h.top.2]
  simp only [Pt.nv,NV.node]
  have hga:=Ez a w
  rw [aK (by rfl),aK (by rfl),iha o m w h.yKi.1 hf.1 (by omega) (by omega) he]
  simp only [W4.out,aQ]
  rw [ihb (o+a.sz) m (fG a w) h.yKi.2 hf.2 (by omega) (by omega) (by rw [tF]; exact he)]
  rfl
 | alt a b iha ihb =>
  intro o m w h hf hm hg he
  obtain ⟨m,rfl⟩:∃ k,m=k+1:=⟨m - 1,by simp only [Pt.sz] at hm; omega⟩
  simp only [jS,aG] at hf
  simp only [Pt.sz] at hm hg
  rw [start h]; unfold dR; simp only
  rw [aD h.top.1,h.top.2]
  simp only [Pt.nv,NV.node]
  have hga:=Ez a w
  rw [aF (by rfl),aK (by rfl),iha o m w h.alt1.1 hf.1 (by omega) (by omega) he]
  simp only [W4.out,aQ]
  rw [ihb (o+a.sz) m (fG a w) h.alt1.2 hf.2 (by omega) (by omega) (by rw [tF]; exact he)]
  rfl
 | times a lo hi iha =>
  intro o m w h hf hm hg he
  obtain ⟨m,rfl⟩:∃ k,m=k+1:=⟨m - 1,by simp only [Pt.sz] at hm; omega⟩
  simp only [jS,aG] at hf
  simp only [Pt.sz] at hm hg
  rw [start h]; unfold dR; simp only
  rw [aD h.top.1,h.top.2]
  simp only [Pt.nv,NV.node]
  rw [aF (by rfl),aF (by rfl),aK (by rfl),iha o m w h.yKj hf.1 (by omega) (by omega) he]
  rfl
 | group a k iha =>
  intro o m w h hf hm hg he
  obtain ⟨m,rfl⟩:∃ k,m=k+1:=⟨m - 1,by simp only [Pt.sz] at hm; omega⟩
  simp only [jS,aG,decide_eq_true_eq] at hf
  simp only [Pt.sz] at hm hg
  rw [start h]; unfold dR; simp only
  rw [aD h.top.1,h.top.2]
  simp only [Pt.nv,NV.node]
  rw [aF (by rfl),aF (by rfl),aF (by rfl),aK (by rfl),bD (by omega) (by omega),show (w.1:Int)+1=((w.1+1:Nat):Int) from rfl]
  have hI:=iha o m (w.1+1,w.2.1 && decide (k=w.1+1),w.2.2.1,w.2.2.2) h.yKk hf.1 (by omega) (by simp only; omega) he
  simp only at hI
  have he2:((k:Int) == ((w.1+1:Nat):Int))=decide (k=w.1+1):=by rw [Bool.eq_iff_iff,beq_iff_eq,decide_eq_true_eq]; omega
  have hlen:=tF a (w.1+1,w.2.1 && decide (k=w.1+1),w.2.2.1,w.2.2.2)
  rw [he2]
  cases hb:w.2.1 <;> rw [hb] at hI hlen
  ·simp only [Bool.false_and] at hI hlen
   rw [bC,hI]
   simp only [W4.out,aQ]
   rw [aD (qW (i:=k) (n:=10) (by omega)),aD (by exact decide_eq_true (show k < 10 by omega))]
   simp only [fG,hb,Bool.false_and,Int.toNat_natCast]
  ·simp only [Bool.true_and] at hI hlen
   rw [bV,hI]
   simp only [W4.out,aQ]
   rw [aD (qW (i:=k) (n:=10) (by omega)),aD (by exact decide_eq_true (show k < 10 by omega))]
   simp only [fG,hb,Bool.true_and,Int.toNat_natCast]
def w0:W4:=(0,true,yJx,false)
def Yf (t:Pt):Prop:=t.sz <= 120∧Ey t.sz t∧(fG t w0).2.1=true
theorem zXg {n:Nat} {l:List Nd} (hn:200 <= n) (hw:∀ nd ∈ l,Ws nd) :
  (∃ t,Yf t∧l=t.enc 0∧zK n l=some (((fG t w0).1:Int),(fG t w0).2.2.2,true))∨((∀ t,Yf t->l ≠ t.enc 0)∧zK n l=some (0,false,false)):=by
 unfold zK
 simp only
 have hsz:∀ t:Pt,l=t.enc 0->l.length=t.sz:=fun t h=>by rw [h,Pt.dS]
 by_cases h0:l.length=0
 ·rw [aK (by rw [h0]; rfl)]
  exact Or.inr ⟨fun t _ h=>by have:=hsz t h; have:=t.qP; omega,rfl⟩
 rw [aF (by simp; intro h; rw [h] at h0; simp at h0)]
 by_cases h1:l.length > 120
 ·rw [aK (by simp; omega)]
  exact Or.inr ⟨fun t ht h=>by have:=hsz t h; have:=ht.1; omega,rfl⟩
 rw [aF (by simp; omega)]
 rcases zXf (n:=n) (l:=l) (by omega) (by omega) (by omega) hw with ⟨ho,t,ht,hk⟩ | ⟨ho,hno⟩
 ·rw [ho]
  simp only [aQ,Bool.not_true,bC]
  unfold Du
  simp only
  have hlt:=hsz t ht
  have htp:=t.qP
  rw [bD (by omega) (by omega),show (l.length:Int) - 1=t.top 0 by unfold Pt.top; omega]
  have hA:At l 0 t:=by have:=At.self t; rw [<- ht] at this; exact this
  have hN:=Rw (l:=l) (by omega) t 0 n w0 hA hk.1 (by omega) (by simp only [w0]; omega) rfl
  have hw0:mX n (t.top 0,l,0,true,[false,false,false,false,false,false,false,false,false,false],false,())=W4.out l (fG t w0):=hN
  rw [hw0]
  simp only [W4.out,aQ]
  cases hi:(fG t w0).2.1
  ·refine Or.inr ⟨fun u hu h=>?_,rfl⟩
   have hu2:=hu.2.2
   have hlu:=hsz u h
   have hB:At l 0 u:=by have:=At.self u; rw [<- h] at this; exact this
   have htop:t.top 0=u.top 0:=by unfold Pt.top; omega
   have hM:=Rw (l:=l) (by omega) u 0 n w0 hB hu.2.1.1 (by omega) (by simp only [w0]; omega) rfl
   rw [<- htop,hN] at hM
   simp only [W4.out,aA,aB] at hM
   have:=hM.2.2.1
   rw [hi,hu2] at this; simp at this
  ·rw [hlt] at hk
   exact Or.inl ⟨t,⟨by omega,hk,hi⟩,ht,rfl⟩
 ·rw [ho]
  simp only [aQ,Bool.not_false,bV]
  exact Or.inr ⟨fun t ht h=>by have:=hno t h; rw [hsz t h] at this; exact this ht.2.1,by first | rfl | trivial⟩
theorem zZx {n:Nat} {l:List Nd} (hn:200 <= n) (hw:∀ nd ∈ l,Ws nd) :
  (∃ t,Yf t∧l=t.enc 0∧tJ n l=some true)∨((∀ t,Yf t->l ≠ t.enc 0)∧tJ n l=some false):=by
 unfold tJ
 simp only
 rcases zXg hn hw with ⟨t,h1,h2,h3⟩ | ⟨h1,h2⟩
 ·exact Or.inl ⟨t,h1,h2,by rw [h3]; rfl⟩
 ·exact Or.inr ⟨h1,by rw [h2]; rfl⟩
end Go.Dec
