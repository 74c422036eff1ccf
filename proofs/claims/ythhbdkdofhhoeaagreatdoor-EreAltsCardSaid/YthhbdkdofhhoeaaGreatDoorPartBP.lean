/- Part of a proof over this seat: a library of my own, and what it says of this seat. No statement is proved here. -/
import Derived.Test.YthhbdkdofhhoeaaGreatDoorPartBO
import Derived.Test.YthhbdkdofhhoeaaGreatDoorPartBJ
namespace Go.Dec
def yBp:List UInt8:=[93,91,92,94,45,10]
def zVy:List UInt8:=[46,91,92,42,94,36]
def yCo (c:UInt8):List UInt8:=bif c==10 then [92,110] else bif zVy.contains c then [92,c] else [c]
section
variable {n:Nat}
end
def zPl (q:Nat->Bool):Nat->Nat->Nat | 0,k=>k | f+1,k=>bif decide (k+1 < 256)&&q (k+1) then zPl q f (k+1) else k
def zFm(q:Nat->Bool):Nat->Nat->List UInt8
 |0,_=>[]
 |f+1,i=>if i<256 then(bif q i then(bif decide (i+2<=zPl q 256 i)then [UInt8.ofNat i,45,UInt8.ofNat (zPl q 256 i)]++zFm q f (zPl q 256 i+1)else [UInt8.ofNat i]++zFm q f (i+1))else zFm q f (i+1))else []
end Go.Dec
namespace Go.Dec
def yBq (p:Nat->Bool):Nat->Bool:=fun i=>p i&&!(yBp.contains (UInt8.ofNat i))
def yCp (p:Nat->Bool):List UInt8:=(bif p 10 then [92,110] else [])++((bif p 91 then [91] else [])++((bif p 92 then [92] else [])++((bif p 94 then [94] else [])++((bif p 45 then [45] else [])++[93]))))
def yCq (p:Nat->Bool):List UInt8:=[91]++(bif p 93 then [93] else [])
def yCr (p:Nat->Bool):List UInt8:=yCq p++zFm (yBq p) 257 0++yCp p
def yCs(p:Nat->Bool):List UInt8 :=
 match rR p with
 |[]=>[]
 |[c]=>yCo c
 |l=>bif l.length==256 then [46]else bif l==[45,94]then [91,45,94,93]else yCr p
section
variable {n:Nat}
end
end Go.Dec
namespace Go.Dec
section
variable {n:Nat}{p:Nat->Bool}
end
end Go.Dec
namespace Go.Dec
def yBr (lo hi:Int):List UInt8 :=bif hi == -1 then (bif lo==0 then [42] else [92,123]++oN lo++[44,92,125]) else bif hi==lo then [92,123]++oN lo++[92,125] else [92,123]++oN lo++[44]++oN hi++[92,125]
def Rf:Pt->List UInt8 | .empty=>[] | .bytes p=>yCs p | .bol=>[94] | .eol=>[36] | .cat a b=>Rf a++Rf b | .alt _ _=>[124] | .times a lo hi=>Rf a++yBr lo hi | .group a _=>[92,40]++Rf a++[92,41] | .ref m=>[92]++oN (m:Int)
section
variable {n:Nat}{l:List Nd}
end
end Go.Dec
namespace Go.Dec
section
variable {n:Nat}{l:List Nd}
end
end Go.Dec
