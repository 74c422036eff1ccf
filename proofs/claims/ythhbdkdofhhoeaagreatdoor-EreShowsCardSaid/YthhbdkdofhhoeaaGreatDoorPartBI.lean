/- Part of a proof over this seat: a library of my own, and what it says of this seat. No statement is proved here. -/
import Derived.Test.YthhbdkdofhhoeaaGreatDoorPartBH
namespace Go.Dec
abbrev Nd:Type:=Int × List Int × Int × Int × Int × Int × Int × Unit
abbrev RdT:Type:=List UInt8 × Int × Int × List Bool × List Nd × Unit
inductive Pt where
 |empty|bol|eol
 |bytes (p:Nat->Bool)
 |cat (a b:Pt)|alt (a b:Pt)
 |times (a:Pt) (lo hi:Int)
 |group (a:Pt) (n:Nat)
 |ref (n:Nat)
def Pt.sz:Pt->Nat | .cat a b=>a.sz+b.sz+1 | .alt a b=>a.sz+b.sz+1 | .times a _ _=>a.sz+1 | .group a _=>a.sz+1 | _=>1
theorem Pt.zUv:∀ t:Pt,1<=t.sz
 |.empty|.bol|.eol|.bytes _|.ref _=>aQ _
 |.cat _ _|.alt _ _|.times _ _ _|.group _ _=>Nat.le_add_left _ _
def Pt.top (o:Nat) (t:Pt):Int:=((o+t.sz:Nat):Int) - 1
def Pt.enc (o:Nat):Pt->List Nd | .empty=>[(0,[0,0,0,0],0,0,0,0,0,())] | .bol=>[(2,[0,0,0,0],0,0,0,0,0,())] | .eol=>[(3,[0,0,0,0],0,0,0,0,0,())] | .bytes p=>[(1,wd p,0,0,0,0,0,())] | .cat a b=>a.enc o++b.enc (o+a.sz)++[(4,[0,0,0,0],a.top o,b.top (o+a.sz),0,0,0,())] | .alt a b=>a.enc o++b.enc (o+a.sz)++[(5,[0,0,0,0],a.top o,b.top (o+a.sz),0,0,0,())] | .times a lo hi=>a.enc o++[(6,[0,0,0,0],a.top o,0,lo,hi,0,())] | .group a n=>a.enc o++[(7,[0,0,0,0],a.top o,0,0,0,(n:Int),())] | .ref n=>[(8,[0,0,0,0],0,0,0,0,(n:Int),())]
theorem Pt.iP:∀ (t:Pt) (o:Nat),(t.enc o).length=t.sz
 |.empty,_|.bol,_|.eol,_|.bytes _,_|.ref _,_=>rfl
 |.cat a b,o=>by simp[Pt.enc,Pt.sz,Pt.iP a,Pt.iP b];omega
 |.alt a b,o=>by simp[Pt.enc,Pt.sz,Pt.iP a,Pt.iP b];omega
 |.times a _ _,o=>by simp[Pt.enc,Pt.sz,Pt.iP a]
 |.group a _,o=>by simp[Pt.enc,Pt.sz,Pt.iP a]
inductive Res (α:Type) where
 |ok (a:α) (r:List UInt8) (b:Nat) (en:List Bool)
 |er (e k:Nat)
def yBq (r:List UInt8):Bool:=r.isEmpty||[92,41].isPrefixOf r
def nT:Nat->List UInt8->Nat | 0,_=>0 | _+1,[]=>0 | m+1,c :: r=>bif isDigit c then nT m r+1 else 0
def Ay (r:List UInt8):Option Nat×List UInt8 :=let k:=nT 3 r
 (bif k==0 then none else some (eH (r.take k)),r.drop k)
def mI (c:UInt8):Nat->Bool:=fun i=>decide (i = c.toNat)
def yHz:List Bool:=[false,false,false,false,false,false,false,false,false,false]
def psn (s r:List UInt8):Int:=((s.length-r.length:Nat):Int)
theorem Ns{r s:List UInt8}(h:r <:+ s):s.drop (s.length-r.length)=r:=(List.suffix_iff_eq_drop.1 h).symm
theorem wF{r s:List UInt8}(h:r <:+ s):r.length<=s.length:=h.length_le
theorem zUw{r s:List UInt8}(h:r <:+ s)(k:Nat):r.drop k <:+ s:=(List.drop_suffix k r).trans h
theorem yEk{r s:List UInt8}(h:r <:+ s){k:Nat}(hk:k<=r.length):psn s (r.drop k)=psn s r+k:=by
 have:=wF h;unfold psn;rw[List.length_drop];omega
theorem Gz{r s:List UInt8}(h:r <:+ s)(hs:s.length<1000000){k:Nat}(hk:k<=r.length):IntKind.wrap .i64 (psn s r+(k:Int))=psn s (r.drop k):=by
 have:=wF h;rw[yEk h hk,bZ (by unfold psn;omega) (by unfold psn;omega)]
theorem zUx{r s:List UInt8}(h:r <:+ s):(decide (0<=psn s r)&&decide (psn s r<=(s.length:Int)))=true:=by
 unfold psn;simp
theorem Vb(r s:List UInt8):(psn s r).toNat=s.length-r.length:=Int.toNat_natCast _
theorem zEa{r s:List UInt8}(h:r <:+ s){j:Nat}{c d:UInt8}(hj:r[j]?=some c):bE d s (psn s r+(j:Int))=c:=by
 unfold psn;rw[show((s.length-r.length:Nat):Int)+(j:Int)=((s.length-r.length+j:Nat):Int)by omega];exact Nr (by rw[Ns h];exact hj)
theorem yBr{r s:List UInt8}(h:r <:+ s):(psn s r==(s.length:Int))=r.isEmpty:=by
 have:=wF h;rw[Bool.eq_iff_iff,beq_iff_eq,List.isEmpty_iff_length_eq_zero];unfold psn;omega
section
variable {n:Nat}{s r t:List UInt8}{b:Int}{en:List Bool}{l:List Nd}
theorem zOl:∀ (m:Nat) (r:List UInt8),nT m r<=m/\nT m r<=r.length
 |0,_=>by simp[nT]
 |m+1,[]=>by simp[nT]
 |m+1,c::r=>by
  have:=zOl m r;unfold nT;cases isDigit c<;>simp<;>omega
theorem zLg:∀ (m:Nat) (r:List UInt8),(r.take (nT m r)).all isDigit=true
 |0,_=>by simp[nT]
 |m+1,[]=>by simp[nT]
 |m+1,c::r=>by
  have:=zLg m r;unfold nT;cases h:isDigit c
  ·simp
  ·simp[h,this]
def Td:Option Nat->Int | none => -1 | some k=>(k:Int)
end
end Go.Dec
namespace Go.Dec
section
variable {n:Nat}{s r:List UInt8}{b:Nat}{en:List Bool}{l:List Nd}
theorem zHr(k:Nat):((k:Int)==(-1))=false:=by rw[Bool.eq_false_iff,ne_eq,beq_iff_eq];omega
theorem yAb(k:Nat):((k:Int) != (-1))=true:=by rw[bne,zHr];rfl
end
end Go.Dec
namespace Go.Dec
def yIa (e:Nat):Prop:=40<=e ∧ e<=44
theorem Nt(r:List UInt8):(Ay r).2 <:+ r:=List.drop_suffix _ _
def szL:List Pt->Nat | []=>0 | t :: ts=>t.sz+1+szL ts
theorem zOm:∀ (a b:List Pt),szL (a++b)=szL a+szL b
 |[],b=>by simp[szL]
 |t::a,b=>by simp[szL,zOm a b];omega
end Go.Dec
namespace Go.Dec
theorem Bt(d:UInt8):UInt8.ofNat d.toNat=d:=by simp
theorem yEl(d:UInt8):wd (bC d.toNat d.toNat)=wd (mI d):=uE λi hi=>by
 simp only[bC,mI];rw[Bool.eq_iff_iff];simp;omega
theorem zUy(d:UInt8):wd (ofP [d])=wd (mI d):=uE λi hi=>by
 simp only[ofP,mI];rw[Bool.eq_iff_iff];simp;omega
section
variable {n:Nat}{s r:List UInt8}{b:Nat}{en:List Bool}{l:List Nd}{rw':RdT->Option (Sum (Int × RdT) (Int × Int × RdT))}{row:List UInt8->Nat->List Bool->Res (Option Pt)}
end
end Go.Dec
namespace Go.Dec
def szA:List Pt->Nat | []=>0 | t :: ts=>t.sz+szA ts
def gB:Nat->List Pt->List Nd | _,[]=>[] | o,t :: ts=>t.enc o++gB (o+t.sz) ts
def jQ:Nat->List Pt->List Int | _,[]=>[] | o,t :: ts=>t.top o :: jQ (o+t.sz) ts
theorem uX:∀ (a b:List Pt),szA (a++b)=szA a+szA b
 |[],b=>by simp[szA]
 |t::a,b=>by simp[szA,uX a b];omega
theorem Ll:∀ ts:List Pt,szA ts+ts.length=szL ts
 |[]=>rfl
 |t::ts=>by have:=Ll ts;simp[szA,szL];omega
theorem pF:∀ (ts:List Pt) (o:Nat),(gB o ts).length=szA ts
 |[],_=>rfl
 |t::ts,o=>by simp[gB,szA,Pt.iP,pF ts]
theorem He:∀ (ts:List Pt) (o:Nat) (t:Pt),gB o (ts++[t])=gB o ts++t.enc (o+szA ts)
 |[],o,t=>by simp[gB,szA]
 |u::ts,o,t=>by simp[gB,szA,He ts,Nat.add_assoc]
theorem Te:∀ (ts:List Pt) (o:Nat) (t:Pt),jQ o (ts++[t])=jQ o ts++[t.top (o+szA ts)]
 |[],o,t=>by simp[jQ,szA]
 |u::ts,o,t=>by simp[jQ,szA,Te ts,Nat.add_assoc]
theorem xU:∀ (ts:List Pt) (o:Nat),(jQ o ts).length=ts.length
 |[],_=>rfl
 |t::ts,o=>by simp[jQ,xU ts]
theorem zLh(pre:List Pt)(t:Pt)(post:List Pt)(o:Nat)(d:Int):(jQ o (pre++t::post)).getD pre.length d=t.top (o+szA pre):=by
 induction pre generalizing o with
 |nil=>simp[jQ,szA]
 |cons u pre ih=>simp only[List.cons_append,jQ,szA,List.length_cons,List.getD_cons_succ];rw[ih];congr 1;omega
section
variable {n:Nat}{s:List UInt8}{l:List Nd}{rw':RdT->Option (Sum (Int × RdT) (Int × Int × RdT))}
end
def zLi:Sum Pt (Nat×Nat)->List Nd×Int×Int | .inl t=>(t.enc 0,0,0) | .inr (e,k)=>([],(k:Int),(e:Int))
end Go.Dec
namespace Go.Dec
end Go.Dec
