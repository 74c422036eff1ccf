/- Part of a proof over this seat: a library of my own, and what it says of this seat. No statement is proved here. -/
import Derived.Test.YthhbdkdofhhoeaaGreatDoorPartBN
import Derived.Test.YthhbdkdofhhoeaaGreatDoorPartBQ
import Derived.Test.YthhbdkdofhhoeaaGreatDoorPartBP
namespace Go.Dec
def zMw (c:UInt8):List UInt8:=bif c==10 then [92,110] else bif mK.contains c then [92,c] else [c]
def Jo(p:Nat->Bool):List UInt8 :=
 match bG p with
 |[c]=>zMw c
 |_=>Ca p
def Qj (lo hi:Int):List UInt8 :=bif hi == -1&&lo==0 then [42] else bif hi == -1&&lo==1 then [43] else bif hi==1&&lo==0 then [63] else bif hi == -1 then [123]++bM lo++[44,125] else bif hi==lo then [123]++bM lo++[125] else [123]++bM lo++[44]++bM hi++[125]
def fO:Pt->List UInt8 | .empty=>[] | .bytes p=>Jo p | .bol=>[94] | .eol=>[36] | .cat a b=>fO a++fO b | .alt a b=>fO a++[124]++fO b | .times a lo hi=>fO a++Qj lo hi | .group a _=>[40]++fO a++[41] | .ref m=>[92]++bM m
theorem yKj(p:Nat->Bool):(Jo p).length<=270:=by
 have h:=yKi p;unfold Jo;split
 ·unfold zMw;rename_i c _;cases c==10<;>cases mK.contains c<;>simp
 ·exact h
theorem zMx(lo hi:Int):(Qj lo hi).length<=60:=by
 have h1:=@lD lo;have h2:=@lD hi;unfold Qj;cases hi==-1&&lo==0<;>cases hi==-1&&lo==1<;>cases hi==1&&lo==0<;>cases hi==-1<;>cases hi==lo<;>simp<;>omega
theorem fH:∀ t:Pt,(fO t).length<=300*t.sz
 |.empty|.bol|.eol=>by simp[fO,Pt.sz]
 |.bytes p=>by have:=yKj p;simp[fO,Pt.sz];omega
 |.cat a b=>by have:=fH a;have:=fH b;simp[fO,Pt.sz];omega
 |.alt a b=>by have:=fH a;have:=fH b;simp[fO,Pt.sz];omega
 |.times a lo hi=>by have:=fH a;have:=zMx lo hi;simp[fO,Pt.sz];omega
 |.group a _=>by have:=fH a;simp[fO,Pt.sz];omega
 |.ref m=>by have:=@lD (m:Int);simp[fO,Pt.sz];omega
section
variable {n:Nat}{l:List Nd}{p:Nat->Bool}
theorem zSx:((List.range 256).all λi=>Go.Lib.contains mK [UInt8.ofNat i]==mK.contains (UInt8.ofNat i))=true:=by decide +kernel
theorem yAu(hn:400<=n):Pk n (wd p)=some (Jo p):=by
 unfold Pk;simp only;rw[Qh,aK,yAt hn];unfold Jo Ca;match bG p with
 |[]=>rfl
 |[c]=>
  rw[aC (by rfl)];unfold zMw zMp;simp only[aK];by_cases h10:c=10
  ·subst h10;rfl
  ·have e:(c==10)=false:=by simpa using h10
   rw[aC (by simpa using h10),e];simp only[cond_false];have hi:=sZ zSx c.toNat_lt;rw[Nf,beq_iff_eq]at hi;unfold strings_Contains;simp only;have hi':Go.Lib.contains [46,91,92,40,41,42,43,63,123,125,124,94,36] [c]=mK.contains c:=hi;rw[aB (by rfl),hi',aK,aB (by simp[aG])];cases mK.contains c<;>rfl
 |a::b::l =>
  rw[aI (by simp;omega)];rfl
theorem zZl{c:UInt8}(hn:300<=n):wK n ((c.toNat:Int),[46,91,92,40,41,42,43,63,123,125,124,94,36])=some (zMw c):=by
 unfold wK zMw;simp only;have hb:fZ [(c.toNat:Int)]=[c]:=by simp[fZ]
 rw[show((c.toNat:Int)==10)=(c==10)by rw[zCj];exact eqI 10,hb];cases c==10
 ·have h:=Tg (n:=n) mK (by simp[mK];omega) (by simp[mK]) c;rw[aZ,show([46,91,92,40,41,42,43,63,123,125,124,94,36]:List UInt8)=mK from rfl,h,aK,aB (by simp[aG]),zXt];simp only[cond_false];cases mK.contains c<;>rfl
 ·rfl
theorem zSy(hn:400<=n):Fj n (bx p)=some (Jo p):=by
 unfold Fj Jc;simp only;rw[Le (by omega),aK,Ih (by omega),zSv (by omega)];by_cases h0:(bG p).length=0
 ·rw[aI (by simp[h0])];have:bG p=[]:=List.length_eq_zero_iff.1 h0;unfold Jo Ca;rw[this];rfl
 ·rw[aC (by rw[Bool.eq_false_iff,ne_eq,beq_iff_eq];omega)];by_cases h1:(bG p).length=1
  ·rw[aI (by simp[h1])];obtain⟨c,hc⟩:=List.length_eq_one_iff.1 h1;unfold Jo;rw[hc];simp only[aK];rw[aB (by rfl),show aR 0 [c] 0=c from rfl,zZl (by omega)];rfl
  ·rw[aC (by rw[Bool.eq_false_iff,ne_eq,beq_iff_eq];omega)];have hsh:Jo p=Ca p:=by
    unfold Jo;match hb:bG p,h0,h1 with
    |[],h0,_=>rfl
    |[c],_,h1=>simp at h1
    |a::b::l,_,_=>rfl
   rw[hsh];by_cases Yc:(bG p).length=256
   ·rw[aI (by simp[Yc])];unfold Ca;match hb:bG p,h0,h1,Yc with
    |[],h0,_,_=>simp at h0
    |[c],_,h1,_=>simp at h1
    |a::b::l,_,_,Yc =>
     simp only;rw[show((a::b::l).length==256)=true by rw[beq_iff_eq];exact Yc];rfl
   ·rw[aC (by rw[Bool.eq_false_iff,ne_eq,beq_iff_eq];omega),yKh (by omega) Yc];rfl
theorem yKk{lo hi:Int}{a b c:Int}{w:List Int}(h1:-1<=lo)(h2:lo<1000000)(h3:-1<=hi)(h4:hi<1000000):Kg n (c,w,a,b,lo,hi,0,())=some (Qj lo hi):=by
 unfold Kg Qj;simp only;have l1:=@lD lo;have l2:=@lD hi;rw[Nr h1 h2,aK,Nr h3 h4,aK];have hA:chk (decide ([123].length+(bM lo).length<=aG)) (chk (decide (([123]++bM lo).length+([44,125]:List UInt8).length<=aG)) (some (([123]++bM lo)++[44,125])))=some ([123]++bM lo++[44,125]):=by
  rw[aB (by simp[aG];omega),aB (by simp[aG];omega)]
 have hB:chk (decide ([123].length+(bM lo).length<=aG)) (chk (decide (([123]++bM lo).length+([125]:List UInt8).length<=aG)) (some (([123]++bM lo)++[125])))=some ([123]++bM lo++[125]):=by
  rw[aB (by simp[aG];omega),aB (by simp[aG];omega)]
 have hC:chk (decide ([123].length+(bM lo).length<=aG)) (chk (decide (([123]++bM lo).length+([44]:List UInt8).length<=aG)) (chk (decide ((([123]++bM lo)++[44]).length+(bM hi).length<=aG)) (chk (decide (((([123]++bM lo)++[44])++bM hi).length+([125]:List UInt8).length<=aG)) (some (((([123]++bM lo)++[44])++bM hi)++[125])))))=some ([123]++bM lo++[44]++bM hi++[125]):=by
  rw[aB (by simp[aG];omega),aB (by simp[aG];omega),aB (by simp[aG];omega),aB (by simp[aG];omega)]
 rw[hA,hB,hC];cases hi==-1<;>cases lo==0<;>cases lo==1<;>cases hi==1<;>cases hi==lo<;>rfl
end
end Go.Dec
namespace Go.Dec
section
variable {n:Nat}{l:List Nd}
def zZm (row:List (List UInt8)) (o:Nat):Pt->Prop | .cat a b=>row.getD (o+a.sz - 1) [] = fO a ∧ row.getD (o+a.sz+b.sz - 1) [] = fO b | .alt a b=>row.getD (o+a.sz - 1) [] = fO a ∧ row.getD (o+a.sz+b.sz - 1) [] = fO b | .times a _ _=>row.getD (o+a.sz - 1) [] = fO a | .group a _=>row.getD (o+a.sz - 1) [] = fO a | _=>True
theorem yAv{t:Pt}{o k m:Nat}{row:List (List UInt8)}(h:At l o t)(hl:l.length<1000000)(hm:t.sz<m)(hk:k+1=t.sz)(hr:row.length=l.length)(hn:400<=n)(hf:bY t=true)(hsz:t.sz<=1000)(hc:zZm row o t):∃ row':List (List UInt8),fix (eH n) (m-k) (l,l,(l.length:Int),((o+k:Nat):Int),row,())=fix (eH n) (m-t.sz) (l,l,(l.length:Int),((o+t.sz:Nat):Int),row',())/\row'.length=row.length/\(∀ j,j≠o+k->row'.getD j []=row.getD j [])/\(t.kind≠0->row'.getD (o+k) []=fO t)/\(t.kind=0->row'.getD (o+k) []=row.getD (o+k) []):=by
 have hlen:=h.len;have hnd:=h.node;rw[show o+t.sz-1=o+k by omega]at hnd;have hi:o+k<l.length:=by omega
 have hir:o+k<row.length:=by omega
 have hget:∀ d,aR d l ((o+k:Nat):Int)=(t.nv o).node:=by
  intro d;rw[gX hi];rw[List.getElem?_eq_getElem hi]at hnd;exact Option.some.inj hnd
 have hw:IntKind.wrap .i64 (((o+k:Nat):Int)+1)=((o+t.sz:Nat):Int):=by rw[aW (by omega) (by omega)];omega
 have hpl:=fH t;have hput:∀ x:List UInt8,chk ((inB ((o+k:Nat):Int) row.length&&decide (0+row.length<=row.length))) (
  chk (decide (0+((o+k:Nat):Int).toNat<row.length)) (
   fix (eH n) (m-k-1) (l,l,(l.length:Int),IntKind.wrap .i64 (((o+k:Nat):Int)+1),row.set (0+((o+k:Nat):Int).toNat) x,())))=fix (eH n) (m-t.sz) (l,l,(l.length:Int),((o+t.sz:Nat):Int),row.set (o+k) x,()):=by
  intro x;rw[aB (yOl hir),Int.toNat_natCast,Nat.zero_add,aB (by simp;omega),hw,show m-k-1=m-t.sz by omega]
 have fin:∀ x:List UInt8,x=fO t->t.kind≠0->∃ row':List (List UInt8),fix (eH n) (m-t.sz) (l,l,(l.length:Int),((o+t.sz:Nat):Int),row.set (o+k) x,())=fix (eH n) (m-t.sz) (l,l,(l.length:Int),((o+t.sz:Nat):Int),row',())/\row'.length=row.length/\(∀ j,j≠o+k->row'.getD j []=row.getD j [])/\(t.kind≠0->row'.getD (o+k) []=fO t)/\(t.kind=0->row'.getD (o+k) []=row.getD (o+k) []):=by
  intro x hx hk0;exact⟨_,rfl,by simp,λj hj=>zPp (by omega),λ_=>by rw[zSw hir,hx],λh0=>absurd h0 hk0⟩
 have hrd:∀ (x:Int) (j:Nat),x=(j:Int)->j<row.length->(inB x row.length&&decide (0+row.length<=row.length))=true/\0+x.toNat<row.length/\row.getD (0+x.toNat) (Ty.dflt .str)=row.getD j []:=by
  intro x j hx hj;subst hx;exact⟨yOl hj,by omega,by rw[Int.toNat_natCast,Nat.zero_add];rfl⟩
 rw[bI (by omega),eH];simp only;rw[aI (by simp;omega),aB (fQ hi),hget];unfold zZm at hc;cases t with
 |empty =>
  simp only[Pt.nv,NV.node];rw[aC (by rfl),aC (by rfl),aC (by rfl),aC (by rfl),aC (by rfl),aC (by rfl),aC (by rfl),aC (by rfl),hw,show m-k-1=m-Pt.empty.sz by omega];exact⟨row,rfl,rfl,λ_ _=>rfl,λh=>absurd rfl h,λ_=>rfl⟩
 |bytes p =>
  simp only[Pt.nv,NV.node];rw[aI (by rfl),yAu hn,aK,hput];exact fin _ rfl (by simp[Pt.kind])
 |bol =>
  simp only[Pt.nv,NV.node];rw[aC (by rfl),aI (by rfl),hput];exact fin _ rfl (by simp[Pt.kind])
 |eol =>
  simp only[Pt.nv,NV.node];rw[aC (by rfl),aC (by rfl),aI (by rfl),hput];exact fin _ rfl (by simp[Pt.kind])
 |cat a b =>
  simp only[Pt.nv,NV.node];have pa:=a.dN;have pb:=b.dN;have la:=fH a;have lb:=fH b;simp only[Pt.sz]at hlen hk hsz;have ta:a.top o=((o+a.sz-1:Nat):Int):=by unfold Pt.top;omega
  have tb:b.top (o+a.sz)=((o+a.sz+b.sz-1:Nat):Int):=by unfold Pt.top;omega
  obtain⟨a1,a2,a3⟩:=hrd _ _ ta (by omega);obtain⟨b1,b2,b3⟩:=hrd _ _ tb (by omega);rw[hc.1]at a3;rw[hc.2]at b3;rw[aC (by rfl),aC (by rfl),aC (by rfl),aI (by rfl),aB a1,aB (by exact decide_eq_true a2),aB b1,aB (by exact decide_eq_true b2),aB (by exact decide_eq_true (by rw[a3,b3];unfold aG;omega)),hput];exact fin _ (by rw[a3,b3];rfl) (by simp[Pt.kind])
 |alt a b =>
  simp only[Pt.nv,NV.node];have pa:=a.dN;have pb:=b.dN;have la:=fH a;have lb:=fH b;simp only[Pt.sz]at hlen hk hsz;have ta:a.top o=((o+a.sz-1:Nat):Int):=by unfold Pt.top;omega
  have tb:b.top (o+a.sz)=((o+a.sz+b.sz-1:Nat):Int):=by unfold Pt.top;omega
  obtain⟨a1,a2,a3⟩:=hrd _ _ ta (by omega);obtain⟨b1,b2,b3⟩:=hrd _ _ tb (by omega);rw[hc.1]at a3;rw[hc.2]at b3;rw[aC (by rfl),aC (by rfl),aC (by rfl),aC (by rfl),aI (by rfl),aB a1,aB (by exact decide_eq_true a2),aB (by exact decide_eq_true (by rw[a3];simp only[List.length_cons,List.length_nil];unfold aG;omega)),aB b1,aB (by exact decide_eq_true b2),aB (by exact decide_eq_true (by rw[a3,b3];simp only[List.length_append,List.length_cons,List.length_nil];unfold aG;omega)),hput];exact fin _ (by rw[a3,b3];rfl) (by simp[Pt.kind])
 |times a lo hi =>
  simp only[Pt.nv,NV.node];have pa:=a.dN;have la:=fH a;have lc:=zMx lo hi;simp only[Pt.sz]at hlen hk hsz;simp only[bY,iA,aH,Bool.or_eq_true,decide_eq_true_eq]at hf;have ta:a.top o=((o+a.sz-1:Nat):Int):=by unfold Pt.top;omega
  obtain⟨a1,a2,a3⟩:=hrd _ _ ta (by omega);rw[hc]at a3;rw[aC (by rfl),aC (by rfl),aC (by rfl),aC (by rfl),aC (by rfl),aI (by rfl),aB a1,aB (by exact decide_eq_true a2),yKk (by omega) (by omega) (by omega) (by omega),aK,aB (by exact decide_eq_true (by rw[a3];unfold aG;omega)),hput];exact fin _ (by rw[a3];rfl) (by simp[Pt.kind])
 |group a q =>
  simp only[Pt.nv,NV.node];have pa:=a.dN;have la:=fH a;simp only[Pt.sz]at hlen hk hsz;have ta:a.top o=((o+a.sz-1:Nat):Int):=by unfold Pt.top;omega
  obtain⟨a1,a2,a3⟩:=hrd _ _ ta (by omega);rw[hc]at a3;rw[aC (by rfl),aC (by rfl),aC (by rfl),aC (by rfl),aC (by rfl),aC (by rfl),aI (by rfl),aB a1,aB (by exact decide_eq_true a2),aB (by exact decide_eq_true (by rw[a3];simp only[List.length_cons,List.length_nil];unfold aG;omega)),aB (by exact decide_eq_true (by rw[a3];simp only[List.length_append,List.length_cons,List.length_nil];unfold aG;omega)),hput];exact fin _ (by rw[a3];rfl) (by simp[Pt.kind])
 |ref q =>
  simp only[Pt.nv,NV.node];simp only[bY,aH,decide_eq_true_eq]at hf;have li:=@lD (q:Int);rw[aC (by rfl),aC (by rfl),aC (by rfl),aC (by rfl),aC (by rfl),aC (by rfl),aC (by rfl),aI (by rfl),Nr (by omega) (by omega),aK,aB (by simp[aG];omega),hput];exact fin _ rfl (by simp[Pt.kind])
theorem yAw(hl:l.length<=1000)(hn:2000<=n):∀ (t:Pt) (o m:Nat) (row:List (List UInt8)),At l o t->bY t=true->t.sz<m->row.length=l.length->(∀ j,o<=j->row.getD j []=[]) ->
 ∃ row':List (List UInt8),fix (eH n) m (l,l,(l.length:Int),(o:Int),row,())=fix (eH n) (m-t.sz) (l,l,(l.length:Int),((o+t.sz:Nat):Int),row',())/\row'.length=row.length/\(∀ j,j<o->row'.getD j []=row.getD j [])/\(∀ j,o+t.sz<=j->row'.getD j []=[])/\row'.getD (o+t.sz-1) []=fO t:=by
 have fin:∀ (t:Pt) (o k m:Nat) (row:List (List UInt8)),At l o t->bY t=true->t.sz<m->k+1=t.sz->row.length=l.length->(∀ j,o+k<=j->row.getD j []=[]) ->
  zZm row o t ->
  ∃ row':List (List UInt8),fix (eH n) (m-k) (l,l,(l.length:Int),((o+k:Nat):Int),row,())=fix (eH n) (m-t.sz) (l,l,(l.length:Int),((o+t.sz:Nat):Int),row',())/\row'.length=row.length/\(∀ j,j<o+k->row'.getD j []=row.getD j [])/\(∀ j,o+t.sz<=j->row'.getD j []=[])/\row'.getD (o+t.sz-1) []=fO t:=by
  intro t o k m row h hf hm hk hr hz hc;have hlen:=h.len;obtain⟨row',e1,e2,e3,e4,e5⟩:=yAv (n:=n) h (by omega) hm hk hr (by omega) hf (by omega) hc;refine⟨row',e1,e2,λj hj=>e3 j (by omega),λj hj=>by rw[e3 j (by omega)];exact hz j (by omega),?_⟩;rw[show o+t.sz-1=o+k by omega];by_cases h0:t.kind=0
  ·rw[e5 h0,hz _ (bA _)];cases t<;>simp[Pt.kind]at h0
   rfl
  ·exact e4 h0
 have leaf:∀ t:Pt,t.sz=1->(match t with
  |.cat a b=>False
  |.alt a b=>False
  |.times a _ _=>False
  |.group a _=>False
  |_=>True)->∀ (o m:Nat) (row:List (List UInt8)),At l o t->bY t=true->t.sz<m->row.length=l.length->(∀ j,o<=j->row.getD j []=[]) ->
  ∃ row':List (List UInt8),fix (eH n) m (l,l,(l.length:Int),(o:Int),row,())=fix (eH n) (m-t.sz) (l,l,(l.length:Int),((o+t.sz:Nat):Int),row',())/\row'.length=row.length/\(∀ j,j<o->row'.getD j []=row.getD j [])/\(∀ j,o+t.sz<=j->row'.getD j []=[])/\row'.getD (o+t.sz-1) []=fO t:=by
  intro t h1 hk o m row h hf hm hr hz;have:=fin t o 0 m row h hf hm (by omega) hr hz (by cases t<;>first|exact hk.elim|trivial);simpa using this
 intro t;induction t with
 |empty=>exact leaf .empty rfl trivial
 |bytes p=>exact leaf (.bytes p) rfl trivial
 |bol=>exact leaf .bol rfl trivial
 |eol=>exact leaf .eol rfl trivial
 |ref k=>exact leaf (.ref k) rfl trivial
 |cat a b iha ihb =>
  intro o m row h hf hm hr hz;have hfa:=hf;simp only[bY,aH]at hfa;have hsz:(Pt.cat a b).sz=a.sz+b.sz+1:=rfl;have pa:=a.dN;have pb:=b.dN;obtain⟨r1,e1,e2,e3,e4,e5⟩:=iha o m row h.Lg.1 hfa.1 (by omega) hr hz;obtain⟨r2,f1,f2,f3,f4,f5⟩:=ihb (o+a.sz) (m-a.sz) r1 h.Lg.2 hfa.2 (by omega) (by omega) e4;have:=fin (.cat a b) o (a.sz+b.sz) m r2 h hf hm (by omega) (by omega) (λj hj=>f4 j (by omega)) ⟨by rw[f3 _ (by omega)];exact e5,f5⟩;obtain⟨r3,g1,g2,g3,g4,g5⟩:=this;refine⟨r3,?_,by omega,λj hj=>by rw[g3 j (by omega),f3 j (by omega),e3 j hj],g4,g5⟩;rw[e1,f1,<- g1,Nat.sub_sub,Nat.add_assoc]
 |alt a b iha ihb =>
  intro o m row h hf hm hr hz;have hfa:=hf;simp only[bY,aH]at hfa;have hsz:(Pt.alt a b).sz=a.sz+b.sz+1:=rfl;have pa:=a.dN;have pb:=b.dN;obtain⟨r1,e1,e2,e3,e4,e5⟩:=iha o m row h.alt1.1 hfa.1 (by omega) hr hz;obtain⟨r2,f1,f2,f3,f4,f5⟩:=ihb (o+a.sz) (m-a.sz) r1 h.alt1.2 hfa.2 (by omega) (by omega) e4;have:=fin (.alt a b) o (a.sz+b.sz) m r2 h hf hm (by omega) (by omega) (λj hj=>f4 j (by omega)) ⟨by rw[f3 _ (by omega)];exact e5,f5⟩;obtain⟨r3,g1,g2,g3,g4,g5⟩:=this;refine⟨r3,?_,by omega,λj hj=>by rw[g3 j (by omega),f3 j (by omega),e3 j hj],g4,g5⟩;rw[e1,f1,<- g1,Nat.sub_sub,Nat.add_assoc]
 |times a lo hi iha =>
  intro o m row h hf hm hr hz;have hfa:=hf;simp only[bY,aH]at hfa;have hsz:(Pt.times a lo hi).sz=a.sz+1:=rfl;have pa:=a.dN;obtain⟨r1,e1,e2,e3,e4,e5⟩:=iha o m row h.Va hfa.1 (by omega) hr hz;obtain⟨r3,g1,g2,g3,g4,g5⟩:=fin (.times a lo hi) o a.sz m r1 h hf hm (by omega) (by omega) (λj hj=>e4 j (by omega)) e5;exact⟨r3,by rw[e1,<- g1],by omega,λj hj=>by rw[g3 j (by omega),e3 j hj],g4,g5⟩
 |group a k iha =>
  intro o m row h hf hm hr hz;have hfa:=hf;simp only[bY,aH]at hfa;have hsz:(Pt.group a k).sz=a.sz+1:=rfl;have pa:=a.dN;obtain⟨r1,e1,e2,e3,e4,e5⟩:=iha o m row h.Vb hfa.1 (by omega) hr hz;obtain⟨r3,g1,g2,g3,g4,g5⟩:=fin (.group a k) o a.sz m r1 h hf hm (by omega) (by omega) (λj hj=>e4 j (by omega)) e5;exact⟨r3,by rw[e1,<- g1],by omega,λj hj=>by rw[g3 j (by omega),e3 j hj],g4,g5⟩
def zEm(t:Pt):List UInt8 × Int :=
 match wL (fO t)with
 |.inr _=>([],1)
 |.inl u=>bif dP u==dP t then(fO t,0)else([],1)
theorem zMy{s:List UInt8}{e k:Nat}(h:wL s=.inr (e,k)):e≠0:=by
 rcases zGb s with ⟨t,hp,_⟩|⟨e',k',hp,he,_⟩
 ·rw[h]at hp;cases hp
 ·rw[h]at hp;simp only[Sum.inr.injEq,aF]at hp;obtain⟨rfl,rfl⟩:=hp;rcases he with he|he
  ·have:=he.1;omega
  ·omega
theorem zDg{s:List UInt8}{t:Pt}(h:wL s=.inl t):tF t:=by
 rcases zGb s with ⟨u,hp,hg,_⟩|⟨e',k',hp,_⟩
 ·rw[h]at hp;simp only[Sum.inl.injEq]at hp;subst hp;exact hg
 ·rw[h]at hp;cases hp
theorem zZn{t:Pt}(hn:200000<=n)(h:tF t):vD n (t.enc 0)=some (zEm t):=by
 unfold vD;simp only;rw[yCd (by omega) h];simp only[aK,Bool.not_true,aZ];have hsz:=h.1;have htp:=t.dN;have hlen:=t.bX 0;rw[aB (by rw[hlen];simp[room];omega),Int.toNat_natCast];obtain⟨row',e1,e2,_,_,e5⟩:=yAw (n:=n) (l:=t.enc 0) (by omega) (by omega) t 0 n (List.replicate (t.enc 0).length []) (At.self t) h.2.1.1 (by omega) (by simp) (λj _=>by
  rw[List.getD_eq_getElem?_getD,List.getElem?_replicate];split<;>rfl)
 rw[show((0:Nat):Int)=0 from rfl]at e1;rw[e1,bI (by omega),eH];simp only;rw[List.length_replicate]at e2;have hv:IntKind.wrap .i64 (((t.enc 0).length:Int)-1)=((0+t.sz-1:Nat):Int):=by rw[aW (by omega) (by omega)];omega
 rw[aC (by rw[hlen];simp),hv,aB (yOl (by omega)),Int.toNat_natCast,Nat.zero_add,aB (by simp;omega),show Ty.dflt .str=([]:List UInt8)from rfl];rw[show 0+t.sz-1=t.sz-1 by omega]at e5 ⊢;rw[e5];have hpl:=fH t;rw[zYu (by omega) (by omega),aK];unfold zEm;cases hp:wL (fO t)with
 |inr x =>
  obtain⟨e,k⟩:=x;have:=zMy hp;simp only[Qe];rw[aI (by simp;omega)]
 |inl u =>
  simp only[Qe];rw[aC (by rfl),Ng (by omega) (zDg hp),aK,Ng (by omega) h,aK];cases dP u==dP t<;>rfl
end
end Go.Dec
namespace Go.Dec
theorem yGu{l:List Nd}(hl:l.length<=1000):∀ (t:Pt) (o m:Nat),At l o t->bY t=true->t.sz+500<=m->wV m (l,t.top o)=some (fO t):=by
 intro t;have start:∀ {t:Pt}{o m:Nat},wV (m+1) (l,t.top o)=fU m (wV m) (l,t.top o):=rfl;induction t with
 |empty =>
  intro o m h hf hm;obtain⟨m,rfl⟩:∃ k,m=k+1:=⟨m-1,by omega⟩;rw[start];unfold fU;simp only;rw[aB h.top.1,h.top.2];rfl
 |bol =>
  intro o m h hf hm;obtain⟨m,rfl⟩:∃ k,m=k+1:=⟨m-1,by omega⟩;rw[start];unfold fU;simp only;rw[aB h.top.1,h.top.2];rfl
 |eol =>
  intro o m h hf hm;obtain⟨m,rfl⟩:∃ k,m=k+1:=⟨m-1,by omega⟩;rw[start];unfold fU;simp only;rw[aB h.top.1,h.top.2];rfl
 |bytes p =>
  intro o m h hf hm;obtain⟨m,rfl⟩:∃ k,m=k+1:=⟨m-1,by omega⟩;rw[start];unfold fU;simp only;rw[aB h.top.1,h.top.2];simp only[Pt.nv,NV.node];rw[aI (by rfl),zSt (by omega),aK,zSy (by omega)];rfl
 |ref q =>
  intro o m h hf hm;obtain⟨m,rfl⟩:∃ k,m=k+1:=⟨m-1,by omega⟩;simp only[bY,aH,decide_eq_true_eq]at hf;rw[start];unfold fU;simp only;rw[aB h.top.1,h.top.2];simp only[Pt.nv,NV.node];have:=@lD (q:Int);rw[aC (by rfl),aC (by rfl),aC (by rfl),aC (by rfl),aC (by rfl),aC (by rfl),aC (by rfl),aI (by rfl),zDa (by omega) (by omega) (by omega),aK,aB (by simp[aG];omega)];rfl
 |cat a b iha ihb =>
  intro o m h hf hm;obtain⟨m,rfl⟩:∃ k,m=k+1:=⟨m-1,by omega⟩;have hlen:=h.len;simp only[bY,aH]at hf;simp only[Pt.sz]at hm hlen;have la:=fH a;have lb:=fH b;rw[start];unfold fU;simp only;rw[aB h.top.1,h.top.2];simp only[Pt.nv,NV.node];rw[aC (by rfl),aC (by rfl),aC (by rfl),aI (by rfl),iha o m h.Lg.1 hf.1 (by omega),aK,ihb (o+a.sz) m h.Lg.2 hf.2 (by omega),aK,aB (by exact decide_eq_true (by unfold aG;omega))];rfl
 |alt a b iha ihb =>
  intro o m h hf hm;obtain⟨m,rfl⟩:∃ k,m=k+1:=⟨m-1,by omega⟩;have hlen:=h.len;simp only[bY,aH]at hf;simp only[Pt.sz]at hm hlen;have la:=fH a;have lb:=fH b;rw[start];unfold fU;simp only;rw[aB h.top.1,h.top.2];simp only[Pt.nv,NV.node];rw[aC (by rfl),aC (by rfl),aC (by rfl),aC (by rfl),aI (by rfl),iha o m h.alt1.1 hf.1 (by omega),aK,aB (by exact decide_eq_true (by simp only[List.length_cons,List.length_nil];unfold aG;omega)),ihb (o+a.sz) m h.alt1.2 hf.2 (by omega),aK,aB (by exact decide_eq_true (by simp only[List.length_append,List.length_cons,List.length_nil];unfold aG;omega))];rfl
 |times a lo hi iha =>
  intro o m h hf hm;obtain⟨m,rfl⟩:∃ k,m=k+1:=⟨m-1,by omega⟩;have hlen:=h.len;simp only[bY,iA,aH,Bool.or_eq_true,decide_eq_true_eq]at hf;simp only[Pt.sz]at hm hlen;have la:=fH a;have l1:=@lD lo;have l2:=@lD hi;rw[start];unfold fU;simp only;rw[aB h.top.1,h.top.2];simp only[Pt.nv,NV.node];rw[aC (by rfl),aC (by rfl),aC (by rfl),aC (by rfl),aC (by rfl),aI (by rfl),iha o m h.Va hf.1 (by omega),aK];have d1:=zDa (n:=m) (x:=lo) (by omega) (by omega) (by omega);have d2:=zDa (n:=m) (x:=hi) (by omega) (by omega) (by omega);rw[d1,aK];have hp:fO (.times a lo hi)=fO a++Qj lo hi:=rfl;rw[hp];generalize fO a=A at *;have hA1:∀ c:UInt8,chk (decide (A.length+([c]:List UInt8).length<=aG)) (some (A++[c]))=some (A++[c]):=λc=>by rw[aB (by simp[aG];omega)]
  have hB:chk (decide (A.length+([123]:List UInt8).length<=aG)) (chk (decide ((A++[123]).length+(bM lo).length<=aG)) (chk (decide (((A++[123])++bM lo).length+([125]:List UInt8).length<=aG)) (some (((A++[123])++bM lo)++[125]))))=some (A++([123]++bM lo++[125])):=by
   rw[aB (by simp[aG];omega),aB (by simp[aG];omega),aB (by simp[aG];omega)];simp
  have hC:chk (decide (A.length+([123]:List UInt8).length<=aG)) (chk (decide ((A++[123]).length+(bM lo).length<=aG)) (chk (decide (((A++[123])++bM lo).length+([44,125]:List UInt8).length<=aG)) (some (((A++[123])++bM lo)++[44,125]))))=some (A++([123]++bM lo++[44,125])):=by
   rw[aB (by simp[aG];omega),aB (by simp[aG];omega),aB (by simp[aG];omega)];simp
  have hD:chk (decide (A.length+([123]:List UInt8).length<=aG)) (chk (decide ((A++[123]).length+(bM lo).length<=aG)) (chk (decide (((A++[123])++bM lo).length+([44]:List UInt8).length<=aG)) (ob (oF m hi) λy46=>chk (decide ((((A++[123])++bM lo)++[44]).length+y46.length<=aG)) (chk (decide (((((A++[123])++bM lo)++[44])++y46).length+([125]:List UInt8).length<=aG)) (some (((((A++[123])++bM lo)++[44])++y46)++[125]))))))=some (A++([123]++bM lo++[44]++bM hi++[125])):=by
   rw[d2,aB (by simp[aG];omega),aB (by simp[aG];omega),aB (by simp[aG];omega),aK,aB (by simp[aG];omega),aB (by simp[aG];omega)];simp
  have hJ2:∀ (t:Bool) (z:Er5),z.2.2.2.2.1=lo->z.2.2.2.2.2.1=hi->uE m (A,bM lo,t,z)=bif t then some (A++[63])else bif lo==hi then some (A++([123]++bM lo++[125]))else bif hi==-1 then some (A++([123]++bM lo++[44,125]))else some (A++([123]++bM lo++[44]++bM hi++[125])):=by
   intro t z z1 z2;unfold uE;simp only;rw[z1,z2,hA1,hB,hC,hD];cases t<;>cases lo==hi<;>cases hi==-1<;>rfl
  have hJ1:∀ (t:Bool) (z:Er5),z.2.2.2.2.1=lo->z.2.2.2.2.2.1=hi->uF m (A,bM lo,t,z)=bif t then some (A++[43])else bif lo==0&&hi==1 then some (A++[63])else bif lo==hi then some (A++([123]++bM lo++[125]))else bif hi==-1 then some (A++([123]++bM lo++[44,125]))else some (A++([123]++bM lo++[44]++bM hi++[125])):=by
   intro t z z1 z2;unfold uF;simp only;rw[z1,z2,hA1,fC,fC,hJ2 _ _ z1 z2,hJ2 _ _ z1 z2];cases t<;>cases lo==0<;>rfl
  have hJ0:∀ (t:Bool) (z:Er5),z.2.2.2.2.1=lo->z.2.2.2.2.2.1=hi->uG m (A,bM lo,t,z)=bif t then some (A++[42])else bif lo==1&&hi==-1 then some (A++[43])else bif lo==0&&hi==1 then some (A++[63])else bif lo==hi then some (A++([123]++bM lo++[125]))else bif hi==-1 then some (A++([123]++bM lo++[44,125]))else some (A++([123]++bM lo++[44]++bM hi++[125])):=by
   intro t z z1 z2;unfold uG;simp only;rw[z1,z2,hA1,fC,fC,hJ1 _ _ z1 z2,hJ1 _ _ z1 z2];cases t<;>cases lo==1<;>rfl
  rw[fC,fC,hJ0 _ _ rfl rfl,hJ0 _ _ rfl rfl];unfold Qj;by_cases h1:hi=-1
  ·subst h1;have hne:(lo==-1)=false:=by rw[Bool.eq_false_iff,ne_eq,beq_iff_eq];omega
   rw[hne];simp only[show((-1:Int)==-1)=true from rfl,show((-1:Int)==1)=false from rfl,Bool.true_and,Bool.false_and,Bool.and_false,Bool.and_true,cond_true,cond_false];by_cases h0:lo=0
   ·subst h0;rfl
   ·rw[show(lo==0)=false by simpa using h0];cases lo==1<;>rfl
  ·have e1:(hi==-1)=false:=by simpa using h1
   have e2:(hi==lo)=(lo==hi):=by rw[Bool.eq_iff_iff,beq_iff_eq,beq_iff_eq];exact eq_comm
   rw[e1,e2];simp only[Bool.false_and,Bool.and_false,cond_false];cases lo==0<;>cases hi==1<;>cases lo==hi<;>rfl
 |group a q iha =>
  intro o m h hf hm;obtain⟨m,rfl⟩:∃ k,m=k+1:=⟨m-1,by omega⟩;have hlen:=h.len;simp only[bY,aH]at hf;simp only[Pt.sz]at hm hlen;have la:=fH a;rw[start];unfold fU;simp only;rw[aB h.top.1,h.top.2];simp only[Pt.nv,NV.node];rw[aC (by rfl),aC (by rfl),aC (by rfl),aC (by rfl),aC (by rfl),aC (by rfl),aI (by rfl),iha o m h.Vb hf.1 (by omega),aK,aB (by simp[aG];omega),aB (by simp[aG];omega)];rfl
theorem zPs{n:Nat}{t:Pt}(hn:200000<=n)(h:tF t):wW n (t.enc 0)=some (zEm t):=by
 unfold wW;simp only;have hmay:vB n (t.enc 0)=some true:=by
  rcases zDc (n:=n) (l:=t.enc 0) (by omega) (yJk t 0)with ⟨_,_,_,h3⟩|⟨h1,_⟩
  ·exact h3
  ·exact absurd rfl (h1 t h)
 rw[hmay];simp only[aK,Bool.not_true,aZ];have hsz:=h.1;have htp:=t.dN;have hlen:=t.bX 0;have hpl:=fH t;have hv:IntKind.wrap .i64 (((t.enc 0).length:Int)-1)=t.top 0:=by rw[aW (by omega) (by omega),hlen];unfold Pt.top;omega
 rw[hv,yGu (l:=t.enc 0) (by omega) t 0 n (At.self t) h.2.1.1 (by omega),aK,zPo (by omega) (by omega),aK];unfold zEm;cases hp:wL (fO t)with
 |inr x =>
  obtain⟨e,k⟩:=x;have:=zMy hp;simp only[Qe];rw[aI (by simp;omega)]
 |inl u =>
  simp only[Qe];have hu:=zDg hp;have hul:=u.bX 0;have hus:=hu.1;rw[aC (by rfl)];rcases yRw (n:=n) (a:=u.enc 0) (b:=t.enc 0) (by omega) (by omega)with ⟨e1,e2⟩|⟨e1,e2⟩
  ·rw[e2,aK,show(dP u==dP t)=true by rw[beq_iff_eq];exact(zZk hu h).2 e1];rfl
  ·rw[e2,aK,show(dP u==dP t)=false by rw[Bool.eq_false_iff,ne_eq,beq_iff_eq];exact λh2=>e1 ((zZk hu h).1 h2)];rfl
end Go.Dec
