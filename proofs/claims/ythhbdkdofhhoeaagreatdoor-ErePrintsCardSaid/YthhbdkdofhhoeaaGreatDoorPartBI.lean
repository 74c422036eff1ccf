/- Part of a proof over this seat: a library of my own, and what it says of this seat. No statement is proved here. -/
import Derived.Test.YthhbdkdofhhoeaaGreatDoorPartBH
namespace Go.Dec
abbrev Nd:Type:=Int × List Int × Int × Int × Int × Int × Int × Unit
abbrev RdT:Type:=List UInt8 × Int × Int × List Bool × List Nd × Unit
inductive Pt where
 |empty|bol|eol
 |bytes (p:Nat->Bool)
 |cat (a b:Pt)|alt (a b:Pt)
 |times (a:Pt) (lo hi:Int)
 |group (a:Pt) (n:Nat)
 |ref (n:Nat)
def Pt.sz:Pt->Nat | .cat a b=>a.sz+b.sz+1 | .alt a b=>a.sz+b.sz+1 | .times a _ _=>a.sz+1 | .group a _=>a.sz+1 | _=>1
theorem Pt.dN:∀ t:Pt,1<=t.sz
 |.empty|.bol|.eol|.bytes _|.ref _=>bA _
 |.cat _ _|.alt _ _|.times _ _ _|.group _ _=>Nat.le_add_left _ _
def Pt.top (o:Nat) (t:Pt):Int:=((o+t.sz:Nat):Int) - 1
def Pt.enc (o:Nat):Pt->List Nd | .empty=>[(0,[0,0,0,0],0,0,0,0,0,())] | .bol=>[(2,[0,0,0,0],0,0,0,0,0,())] | .eol=>[(3,[0,0,0,0],0,0,0,0,0,())] | .bytes p=>[(1,wd p,0,0,0,0,0,())] | .cat a b=>a.enc o++b.enc (o+a.sz)++[(4,[0,0,0,0],a.top o,b.top (o+a.sz),0,0,0,())] | .alt a b=>a.enc o++b.enc (o+a.sz)++[(5,[0,0,0,0],a.top o,b.top (o+a.sz),0,0,0,())] | .times a lo hi=>a.enc o++[(6,[0,0,0,0],a.top o,0,lo,hi,0,())] | .group a n=>a.enc o++[(7,[0,0,0,0],a.top o,0,0,0,(n:Int),())] | .ref n=>[(8,[0,0,0,0],0,0,0,0,(n:Int),())]
theorem Pt.bX:∀ (t:Pt) (o:Nat),(t.enc o).length=t.sz
 |.empty,_|.bol,_|.eol,_|.bytes _,_|.ref _,_=>rfl
 |.cat a b,o=>by simp[Pt.enc,Pt.sz,Pt.bX a,Pt.bX b];omega
 |.alt a b,o=>by simp[Pt.enc,Pt.sz,Pt.bX a,Pt.bX b];omega
 |.times a _ _,o=>by simp[Pt.enc,Pt.sz,Pt.bX a]
 |.group a _,o=>by simp[Pt.enc,Pt.sz,Pt.bX a]
inductive Res (α:Type) where
 |ok (a:α) (r:List UInt8) (b:Nat) (en:List Bool)
 |er (e k:Nat)
def iB:Nat->List UInt8->Nat | 0,_=>0 | _+1,[]=>0 | m+1,c :: r=>bif isDigit c then iB m r+1 else 0
def qW (r:List UInt8):Option Nat×List UInt8 :=let k:=iB 3 r
 (bif k==0 then none else some (dZ (r.take k)),r.drop k)
def Lf (c:UInt8):Nat->Bool:=fun i=>decide (i = c.toNat)
def Ii:List Bool:=[false,false,false,false,false,false,false,false,false,false]
def psn (s r:List UInt8):Int:=((s.length-r.length:Nat):Int)
theorem Qd{r s:List UInt8}(h:r <:+ s):s.drop (s.length-r.length)=r:=(List.suffix_iff_eq_drop.1 h).symm
theorem kS{r s:List UInt8}(h:r <:+ s):r.length<=s.length:=h.length_le
theorem zCp{r s:List UInt8}(h:r <:+ s)(k:Nat):r.drop k <:+ s:=(List.drop_suffix k r).trans h
theorem zMi{r s:List UInt8}(h:r <:+ s){k:Nat}(hk:k<=r.length):psn s (r.drop k)=psn s r+k:=by
 have:=kS h;unfold psn;rw[List.length_drop];omega
theorem kF{r s:List UInt8}(h:r <:+ s)(hs:s.length<1000000){k:Nat}(hk:k<=r.length):IntKind.wrap .i64 (psn s r+(k:Int))=psn s (r.drop k):=by
 have:=kS h;rw[zMi h hk,aW (by unfold psn;omega) (by unfold psn;omega)]
theorem zXs{r s:List UInt8}(h:r <:+ s):(decide (0<=psn s r)&&decide (psn s r<=(s.length:Int)))=true:=by
 unfold psn;simp
theorem Uz(r s:List UInt8):(psn s r).toNat=s.length-r.length:=Int.toNat_natCast _
theorem Nq{r s:List UInt8}(h:r <:+ s){j:Nat}{c d:UInt8}(hj:r[j]?=some c):aR d s (psn s r+(j:Int))=c:=by
 unfold psn;rw[show((s.length-r.length:Nat):Int)+(j:Int)=((s.length-r.length+j:Nat):Int)by omega];exact wD (by rw[Qd h];exact hj)
theorem Ij{r s:List UInt8}(h:r <:+ s):(psn s r==(s.length:Int))=r.isEmpty:=by
 have:=kS h;rw[Bool.eq_iff_iff,beq_iff_eq,List.isEmpty_iff_length_eq_zero];unfold psn;omega
section
variable {n:Nat}{s r t:List UInt8}{b:Int}{en:List Bool}{l:List Nd}
theorem zPa:∀ (m:Nat) (r:List UInt8),iB m r<=m/\iB m r<=r.length
 |0,_=>by simp[iB]
 |m+1,[]=>by simp[iB]
 |m+1,c::r=>by
  have:=zPa m r;unfold iB;cases isDigit c<;>simp<;>omega
theorem zIo:∀ (m:Nat) (r:List UInt8),(r.take (iB m r)).all isDigit=true
 |0,_=>by simp[iB]
 |m+1,[]=>by simp[iB]
 |m+1,c::r=>by
  have:=zIo m r;unfold iB;cases h:isDigit c
  ·simp
  ·simp[h,this]
def zCq:Option Nat->Int | none => -1 | some k=>(k:Int)
end
end Go.Dec
namespace Go.Dec
section
variable {n:Nat}{s r:List UInt8}{b:Nat}{en:List Bool}{l:List Nd}
theorem zTp(k:Nat):((k:Int)==(-1))=false:=by rw[Bool.eq_false_iff,ne_eq,beq_iff_eq];omega
theorem yPg(k:Nat):((k:Int) != (-1))=true:=by rw[bne,zTp];rfl
end
end Go.Dec
namespace Go.Dec
def yVb (e:Nat):Prop:=40<=e ∧ e<=44
theorem Ik(r:List UInt8):(qW r).2 <:+ r:=List.drop_suffix _ _
def szL:List Pt->Nat | []=>0 | t :: ts=>t.sz+1+szL ts
theorem zPb:∀ (a b:List Pt),szL (a++b)=szL a+szL b
 |[],b=>by simp[szL]
 |t::a,b=>by simp[szL,zPb a b];omega
end Go.Dec
namespace Go.Dec
theorem Nf(d:UInt8):UInt8.ofNat d.toNat=d:=by simp
theorem yVc(d:UInt8):wd (dA d.toNat d.toNat)=wd (Lf d):=yQ λi hi=>by
 simp only[dA,Lf];rw[Bool.eq_iff_iff];simp;omega
theorem yJi(d:UInt8):wd (ofP [d])=wd (Lf d):=yQ λi hi=>by
 simp only[ofP,Lf];rw[Bool.eq_iff_iff];simp;omega
section
variable {n:Nat}{s r:List UInt8}{b:Nat}{en:List Bool}{l:List Nd}{rw':RdT->Option (Sum (Int × RdT) (Int × Int × RdT))}{row:List UInt8->Nat->List Bool->Res (Option Pt)}
end
end Go.Dec
namespace Go.Dec
def szA:List Pt->Nat | []=>0 | t :: ts=>t.sz+szA ts
def dM:Nat->List Pt->List Nd | _,[]=>[] | o,t :: ts=>t.enc o++dM (o+t.sz) ts
def gB:Nat->List Pt->List Int | _,[]=>[] | o,t :: ts=>t.top o :: gB (o+t.sz) ts
theorem oL:∀ (a b:List Pt),szA (a++b)=szA a+szA b
 |[],b=>by simp[szA]
 |t::a,b=>by simp[szA,oL a b];omega
theorem Bf:∀ ts:List Pt,szA ts+ts.length=szL ts
 |[]=>rfl
 |t::ts=>by have:=Bf ts;simp[szA,szL];omega
theorem mF:∀ (ts:List Pt) (o:Nat),(dM o ts).length=szA ts
 |[],_=>rfl
 |t::ts,o=>by simp[dM,szA,Pt.bX,mF ts]
theorem wF:∀ (ts:List Pt) (o:Nat) (t:Pt),dM o (ts++[t])=dM o ts++t.enc (o+szA ts)
 |[],o,t=>by simp[dM,szA]
 |u::ts,o,t=>by simp[dM,szA,wF ts,Nat.add_assoc]
theorem Km:∀ (ts:List Pt) (o:Nat) (t:Pt),gB o (ts++[t])=gB o ts++[t.top (o+szA ts)]
 |[],o,t=>by simp[gB,szA]
 |u::ts,o,t=>by simp[gB,szA,Km ts,Nat.add_assoc]
theorem oG:∀ (ts:List Pt) (o:Nat),(gB o ts).length=ts.length
 |[],_=>rfl
 |t::ts,o=>by simp[gB,oG ts]
theorem zIp(pre:List Pt)(t:Pt)(post:List Pt)(o:Nat)(d:Int):(gB o (pre++t::post)).getD pre.length d=t.top (o+szA pre):=by
 induction pre generalizing o with
 |nil=>simp[gB,szA]
 |cons u pre ih=>simp only[List.cons_append,gB,szA,List.length_cons,List.getD_cons_succ];rw[ih];congr 1;omega
section
variable {n:Nat}{s:List UInt8}{l:List Nd}{rw':RdT->Option (Sum (Int × RdT) (Int × Int × RdT))}
end
def Qe:Sum Pt (Nat×Nat)->List Nd×Int×Int | .inl t=>(t.enc 0,0,0) | .inr (e,k)=>([],(k:Int),(e:Int))
end Go.Dec
namespace Go.Dec
end Go.Dec
