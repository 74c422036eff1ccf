/- Part of a proof over this seat: a library of my own, and what it says of this seat. No statement is proved here. -/
import Derived.Test.YthhbdkdofhhoeaaGreatDoorPartBL
import Derived.Test.YthhbdkdofhhoeaaGreatDoorPartBC
import Derived.Test.YthhbdkdofhhoeaaGreatDoorPartBM
namespace Go.Dec
section
variable {n:Nat}{s r:List UInt8}{b:Nat}{l:List Nd}
theorem zYv(h:r <:+ s)(hs:s.length<1000000){a:UInt8}{X Y:Option (Int × Int × Int)}:br (decide (IntKind.wrap .i64 (psn s r+(([a]:List UInt8).length:Int))>(s.length:Int))) Y (
  chk (decide (0<=IntKind.wrap .i64 (psn s r+(([a]:List UInt8).length:Int)))&&decide (IntKind.wrap .i64 (psn s r+(([a]:List UInt8).length:Int))<=(s.length:Int))&&(decide (0<=psn s r)&&decide (psn s r<=IntKind.wrap .i64 (psn s r+(([a]:List UInt8).length:Int))))) (
   br (!((s.take (IntKind.wrap .i64 (psn s r+(([a]:List UInt8).length:Int))).toNat).drop (psn s r).toNat==[a])) Y X))=bif [a].isPrefixOf r then X else Y:=by
 have hl:=kS h;have e2:((([a]:List UInt8).length:Nat):Int)=1:=rfl;rw[e2];cases r with
 |nil=>rw[aW (by unfold psn;omega) (by unfold psn;omega),aI (by unfold psn;simp;omega)];rfl
 |cons c r1 =>
  have h2:1<=(c::r1).length:=by simp
  have hw:IntKind.wrap .i64 (psn s (c::r1)+1)=psn s ((c::r1).drop 1):=kF h hs (k:=1) h2;have hd:=zMi h (k:=1) h2;rw[hw,aC (by rw[hd];unfold psn;simp at hl ⊢;omega),aB (by rw[hd];unfold psn;simp at hl ⊢;omega),take_at h h2];have e:(List.take 1 (c::r1)==[a])=[a].isPrefixOf (c::r1):=by
   rw[Bool.eq_iff_iff];simp[List.isPrefixOf];exact eq_comm
  rw[e];cases [a].isPrefixOf (c::r1)<;>rfl
theorem yRk(h:r <:+ s)(hs:s.length<1000000)(hn:10<=n):Aw n (s,psn s r,[125])=some (zPd s (oW r)):=by
 unfold Aw;simp only;rw[zXv h hs hn];have hs1:(qW r).2 <:+ s:=(Ik r).trans h;unfold oW;cases hlo:qW r with
 |mk lo r1 =>
  rw[hlo]at hs1;simp only at hs1;cases lo with
  |none=>rfl
  |some lo =>
   rw[show zPc s (some lo,r1)=((lo:Int),psn s r1)from rfl];simp only[aK];rw[aC (by unfold psn;simp),zYv hs1 hs];have h1:(bif [125].isPrefixOf r1 then(br (decide ((lo:Int)>255)) (some (0,0,(-1))) (br (decide ((lo:Int)>255)) (some (0,0,(-1))) (br (decide ((lo:Int)≥0)) (
    br (decide ((lo:Int)<(lo:Int))) (
     some (0,0,(-1))) (
     br ((lo:Int)==0) (
      some (0,0,(-1))) (
      some ((lo:Int),(lo:Int),IntKind.wrap .i64 (psn s r1+(([125]:List UInt8).length:Int)))))) (
    br ((lo:Int)==0) (
     some (0,0,(-1))) (
     some ((lo:Int),(lo:Int),IntKind.wrap .i64 (psn s r1+(([125]:List UInt8).length:Int))))))))else some (0,0,(-1)))=some (zPd s (bif [125].isPrefixOf r1&&decide (lo<=255)&&decide (1<=lo)then some ((lo:Int),(lo:Int),r1.drop 1)else none)):=by
    cases hp:[125].isPrefixOf r1
    ·rfl
    simp only[cond_true,Bool.true_and];have hpl:=jX hp;by_cases h5:lo<=255
    ·rw[aC (by simp;omega),aC (by simp;omega),aI (by simp),aC (by simp),decide_eq_true h5,kF hs1 hs hpl];by_cases h6:1<=lo
     ·rw[aC (by simp;omega),decide_eq_true h6];rfl
     ·rw[aI (by simp;omega),decide_eq_false h6];rfl
    ·rw[aI (by simp;omega),decide_eq_false h5];rfl
   rw[h1,pk1 hs1 44 (k:=44) rfl];cases hc:[44].isPrefixOf r1
   ·rfl
   simp only[cond_true];have hpc:=jX hc;have hs2:r1.drop 1 <:+ s:=zCp hs1 1;have hw1:IntKind.wrap .i64 (psn s r1+1)=psn s (r1.drop 1):=kF hs1 hs (k:=1) hpc;rw[hw1,zXv hs2 hs hn];have hs3:(qW (r1.drop 1)).2 <:+ s:=(Ik _).trans hs2;cases hhi:qW (r1.drop 1)with
   |mk hi r2 =>
    rw[hhi]at hs3;simp only at hs3;cases hi with
    |none =>
     have he2:r2=r1.drop 1:=by
      have:(qW (r1.drop 1)).1=none:=by rw[hhi]
      simp only[qW]at this hhi;cases hz:iB 3 (r1.drop 1)==0
      ·rw[hz]at this;simp at this
      ·have hz:iB 3 (r1.drop 1)=0:=by simpa using hz
       simp only[hz,List.drop_zero,aF]at hhi;exact hhi.2.symm
     subst he2;rw[show ∀ x,zPc s (none,x)=(0,-1)from λ_=>rfl];simp only[aK];rw[aC (by rfl),zYv hs2 hs];cases hp:[125].isPrefixOf (r1.drop 1)
     ·rfl
     simp only[cond_true,Bool.true_and];have hpl:=jX hp;by_cases h5:lo<=255
     ·rw[aC (by simp;omega),aC (by rfl),aC (by rfl),aC (by rfl),decide_eq_true h5,kF hs2 hs hpl];rfl
     ·rw[aI (by simp;omega),decide_eq_false h5];rfl
    |some hi =>
     rw[show zPc s (some hi,r2)=((hi:Int),psn s r2)from rfl];simp only[aK];rw[aI (by unfold psn;simp),zYv hs3 hs];cases hp:[125].isPrefixOf r2
     ·rfl
     simp only[cond_true,Bool.true_and];have hpl:=jX hp;by_cases h5:lo<=255
     ·rw[aC (by simp;omega),decide_eq_true h5];by_cases h6:hi<=255
      ·rw[aC (by simp;omega),aI (by simp),decide_eq_true h6];by_cases h7:lo<=hi
       ·rw[aC (by simp;omega),decide_eq_true h7];by_cases h8:1<=hi
        ·rw[aC (by simp;omega),decide_eq_true h8,kF hs3 hs hpl];rfl
        ·rw[aI (by simp;omega),decide_eq_false h8];rfl
       ·rw[aI (by simp;omega),decide_eq_false h7];rfl
      ·rw[aI (by simp;omega),decide_eq_false h6];rfl
     ·rw[aI (by simp;omega),decide_eq_false h5];rfl
end
end Go.Dec
namespace Go.Dec
def FOK(s:List UInt8)(l:List Nd)(o:jL Pt)(e:Option (Er1 × Int)):Prop:=match o with
 |.ok t r b=>e=some ((l++t.enc l.length,(b:Int),0,0,()),psn s r)
 |.er c k=>∃ (l':List Nd) (b' i':Int),e=some ((l',b',((s.length-k:Nat):Int),(c:Int),()),i')
theorem eqC(c k:UInt8):((c.toNat:Int)==(k.toNat:Int))=(c==k):=by rw[eqI k];exact zCj _ _
section
variable {n:Nat}{s r:List UInt8}{b:Nat}{l:List Nd}{rows:List UInt8->Nat->jL (List (List Pt))}
theorem yJu(s r:List UInt8):decide (psn s r<0)=false:=decide_eq_false (by unfold psn;omega)
theorem yCi(hn:s.length<n)(hs2:s.length<1000000)(d:UInt8):Ct n (s,(d.toNat:Int))=some (s.contains d):=by
 have:Ct n (s,(d.toNat:Int))=tT n (s,(d.toNat:Int)):=rfl;rw[this,Tg s hn hs2]
theorem yCj{x:Er1}{i e:Int}:bJ n (x,i,e)=some (x.1,x.2.1,i,e,()):=rfl
theorem Xr{c:UInt8}{r1:List UInt8}(h:c::r1 <:+ s)(hs:s.length<1000000):inB (psn s (c::r1)) s.length=true/\aR 0 s (psn s (c::r1))=c/\r1 <:+ s/\IntKind.wrap .i64 (psn s (c::r1)+1)=psn s r1/\decide (psn s (c::r1)<(s.length:Int))=true/\(psn s (c::r1)==(s.length:Int))=false:=by
 have hl:=kS h;simp only[List.length_cons]at hl;refine⟨eT (by unfold psn;omega) (by unfold psn;simp only[List.length_cons];omega),?_,(List.suffix_cons c r1).trans h,kF h hs (k:=1) (by simp),decide_eq_true (by unfold psn;simp only[List.length_cons];omega),by rw[Ij h];rfl⟩;have:=Nq h (j:=0) (c:=c) (d:=0) rfl;simpa using this
theorem zYw(h:r <:+ s)(hs:s.length<1000000):kQ n (s,psn s r)=some (mY r):=by
 unfold kQ;simp only;cases r with
 |nil=>rw[aI (by rw[Ij h];rfl)];rfl
 |cons c r1 =>
  obtain⟨h1,h2,h3,h4,h5,h6⟩:=Xr h hs;rw[aC h6,aB h1,h2];unfold mY;simp only;rw[show((c.toNat:Int)==124)=(c==124)from eqC c 124,show((c.toNat:Int)==41)=(c==41)from eqC c 41];cases c==124
  ·simp only[aZ,Bool.false_or];rw[aB h1]
  ·rfl
theorem zPn(hn:10<=n)(h:r <:+ s)(hs:s.length<1000000):gD n (s,psn s r)=some (gH r):=by
 unfold gD;simp only;cases r with
 |nil=>rw[aC (by unfold psn;simp)];rfl
 |cons c r1 =>
  obtain⟨h1,h2,h3,h4,h5,h6⟩:=Xr h hs;rw[aI h5,aB h1,h2,yCi (by simp;omega) (by simp)];simp only[aK,gH,List.contains_cons,List.contains_nil,Bool.or_false,Bool.or_assoc]
theorem Vh{a1 a2:Int}{nd:Nd}{bb:Int}(hl:l.length<1000000):fG n ((l,bb,a1,a2,()),nd)=some (l++[nd],bb,a1,a2,()):=by
 unfold fG;simp only;rw[aB (by simp[room];omega),aB (by simp[room];omega)];simp
theorem Vi{p:Nat->Bool}{a1 a2 bb:Int}(hn:300<=n)(hl:l.length<1000000):nQ n ((l,bb,a1,a2,()),bx p)=some (l++(Pt.bytes p).enc l.length,bb,a1,a2,()):=by
 unfold nQ;simp only;rw[zOy hn];simp only[aK];rw[Vh hl];rfl
def Vj(r:List UInt8):Option (Int × Int × List UInt8):=
 match r with
 |[]=>some (0,0,[])
 |c::r1=>bif c==42 then some (0,-1,r1)else bif c==43 then some (1,-1,r1)else bif c==63 then some (0,1,r1)else bif c==123 then oW r1 else some (0,0,c::r1)
theorem yRl(hn:10<=n)(h:r <:+ s)(hs:s.length<1000000):kR n (s,psn s r)=some (zPd s (Vj r)):=by
 unfold kR Vj;simp only;cases r with
 |nil=>rw[aI (by rw[Ij h];rfl)];rfl
 |cons c r1 =>
  obtain⟨h1,h2,h3,h4,h5,h6⟩:=Xr h hs;rw[aC h6,aB h1,h2];rw[show((c.toNat:Int)==42)=(c==42)from eqC c 42,show((c.toNat:Int)==43)=(c==43)from eqC c 43,show((c.toNat:Int)==63)=(c==63)from eqC c 63,show((c.toNat:Int)==123)=(c==123)from eqC c 123,h4];simp only;cases c==42
  ·cases c==43
   ·cases c==63
    ·cases c==123
     ·rfl
     ·simp only[aZ,bQ,cond_false,cond_true];rw[yRk h3 hs hn];rfl
    ·rfl
   ·rfl
  ·rfl
theorem Vk{t:Pt}(hn:300<=n)(h:r <:+ s)(hs:s.length<1000000)(hl:l.length+t.sz<900000):FOK s l (pK t r b) (
 ob (kR n (s,psn s r)) λy31 =>
 br (decide (y31.2.2<0)) (
  ob (bJ n ((l++t.enc l.length,(b:Int),0,0,()),psn s r,43)) λy32 =>
  some (y32,psn s r)) (
  br (y31.2.2==psn s r) (
   some ((l++t.enc l.length,(b:Int),0,0,()),psn s r)) (
   ob (fG n ((l++t.enc l.length,(b:Int),0,0,()),(6,([0,0,0,0],(IntKind.wrap .i64 (((l++t.enc l.length).length:Int)-1),(0,(y31.1,(y31.2.1,(0,()))))))))) λy34 =>
   ob (gD n (s,y31.2.2)) λy35 =>
   br y35 (
    ob (bJ n (y34,y31.2.2,43)) λy36 =>
    some (y36,y31.2.2)) (
    some (y34,y31.2.2))))):=by
 rw[yRl (by omega) h hs];simp only[aK];have hle:=kS h;have hlen:(l++t.enc l.length).length=l.length+t.sz:=by rw[List.length_append,Pt.bX]
 have htp:=t.dN;have hfin:∀ (lo hi:Int) (r2:List UInt8),r2 <:+ s->r2.length<r.length->FOK s l (Qg t lo hi r2 b) (
  br (decide (psn s r2<0)) (
   ob (bJ n ((l++t.enc l.length,(b:Int),0,0,()),psn s r,43)) λy32 =>
   some (y32,psn s r)) (
   br (psn s r2==psn s r) (
    some ((l++t.enc l.length,(b:Int),0,0,()),psn s r)) (
    ob (fG n ((l++t.enc l.length,(b:Int),0,0,()),(6,([0,0,0,0],(IntKind.wrap .i64 (((l++t.enc l.length).length:Int)-1),(0,(lo,(hi,(0,()))))))))) λy34 =>
    ob (gD n (s,psn s r2)) λy35 =>
    br y35 (
     ob (bJ n (y34,psn s r2,43)) λy36 =>
     some (y36,psn s r2)) (
     some (y34,psn s r2))))):=by
  intro lo hi r2 h2 hlt;have h2l:=kS h2;rw[aC (by unfold psn;simp),aC (by unfold psn;rw[beq_eq_false_iff_ne];omega),Vh (by omega)];simp only[aK];rw[zPn (by omega) h2 hs];simp only[aK];unfold Qg;cases gH r2
  ·simp only[aZ,cond_false,FOK];rw[hlen,aW (by omega) (by omega)];simp only[Pt.enc,Pt.top,List.append_assoc]
  ·simp only[bQ,cond_true,yCj,aK];exact⟨_,_,_,rfl⟩
 cases r with
 |nil =>
  rw[show Vj []=some (0,0,[])from rfl,show zPd s (some (0,0,[]))=(0,0,psn s [])from rfl];simp only;rw[aC (yJu s []),aI (beq_self_eq_true _)];rfl
 |cons c r1 =>
  have h3:r1 <:+ s:=(List.suffix_cons c r1).trans h;by_cases k42:c=42
  ·subst k42;exact hfin _ _ r1 h3 (by simp)
  by_cases k43:c=43
  ·subst k43;exact hfin _ _ r1 h3 (by simp)
  by_cases k63:c=63
  ·subst k63;exact hfin _ _ r1 h3 (by simp)
  by_cases zIu:c=123
  ·subst zIu;rw[show Vj (123::r1)=oW r1 from rfl,show pK t (123::r1) b=match oW r1 with|none=>.er 43 (r1.length+1)|some (lo,hi,r2)=>Qg t lo hi r2 b from rfl];cases ht:oW r1 with
   |none =>
    rw[show zPd s none=(0,0,-1)from rfl];simp only;rw[aI (by rfl)];exact⟨_,_,_,rfl⟩
   |some x =>
    obtain⟨lo,hi,r2⟩:=x;have:=(Xl ht).length_le;exact hfin lo hi r2 ((Xl ht).trans h3) (by simp only[List.length_cons];omega)
  have f:∀ k:UInt8,c≠k->(c==k)=false:=λk h=>by simpa using h
  rw[show Vj (c::r1)=some (0,0,c::r1)by unfold Vj;simp only[f 42 k42,f 43 k43,f 63 k63,f 123 zIu,cond_false],
   Gl (by simp only[gH,f 42 k42,f 43 k43,f 63 k63,f 123 zIu,Bool.or_false])]
  rw[show zPd s (some (0,0,c::r1))=(0,0,psn s (c::r1))from rfl];simp only;rw[aC (yJu s _),aI (beq_self_eq_true _)];rfl
def Xt(s:List UInt8)(l:List Nd)(o:jL (List (List Pt)))(e:Option (Er1 × Int)):Prop:=match o with
 |.ok rs r b=>e=some ((l++(dO rs).enc l.length,(b:Int),0,0,()),psn s r)
 |.er c k=>∃ (l':List Nd) (b' i':Int),e=some ((l',b',((s.length-k:Nat):Int),(c:Int),()),i')
theorem yRm:bx (dA 0 255)=bx (λ_=>true):=kE λi hi=>by simp[dA];omega
theorem yVw{rr:Er4->Option (Er1 × Int)}{deep:Int}{c:UInt8}{r1:List UInt8}(hn:s.length+500<=n)(h:c::r1 <:+ s)(hs:s.length<200000)(hb:b<=9)(hl:l.length+3*r1.length<800000)(hd:0<=deep/\deep<1000)(hcl:c≠124/\c≠41)(hgood:b+1<=9->uX r1 (b+1) (rows r1 (b+1)))(hrow:b+1<=9->Xt s l (rows r1 (b+1)) (rr (s,psn s r1,(l,((b+1:Nat):Int),0,0,()),deep+1))):FOK s l (lN rows (c::r1) b) (vV n rr (s,psn s (c::r1),(l,(b:Int),0,0,()),deep)):=by
 obtain⟨h1,h2,h3,h4,h5,h6⟩:=Xr h (by omega);have hle:=kS h;simp only[List.length_cons]at hle;have eqc:∀ k:UInt8,((c.toNat:Int)==(k.toNat:Int))=(c==k):=λk=>eqC c k
 unfold vV;simp only;rw[aB h1,h2,h4,zPn (by omega) h3 (by omega),zPn (by omega) h (by omega)];rw[show((c.toNat:Int)==94)=(c==94)from eqc 94,show((c.toNat:Int)==36)=(c==36)from eqc 36,show((c.toNat:Int)==46)=(c==46)from eqc 46,show((c.toNat:Int)==91)=(c==91)from eqc 91,show((c.toNat:Int)==40)=(c==40)from eqc 40,show((c.toNat:Int)==92)=(c==92)from eqc 92];unfold lN Bw;simp only;by_cases k94:c=94
 ·subst k94;simp only[show((94:UInt8)==94)=true from rfl,show((94:UInt8)==36)=false from rfl,bQ,aZ,cond_true,aK];cases ha:gH r1
  ·simp only[aZ,cond_false];rw[Vh (by omega),Gl ha];rfl
  ·exact⟨_,_,_,rfl⟩
 rw[show(c==94)=false by simpa using k94];by_cases k36:c=36
 ·subst k36;simp only[show((36:UInt8)==36)=true from rfl,bQ,aZ,cond_true,cond_false,aK];cases ha:gH r1
  ·simp only[aZ,cond_false];rw[Vh (by omega),Gl ha];rfl
  ·exact⟨_,_,_,rfl⟩
 rw[show(c==36)=false by simpa using k36];simp only[aZ,cond_false,aK];cases ha:gH (c::r1)
 case true=>exact⟨_,_,_,rfl⟩
 simp only[aZ,cond_false];have hl2:l.length<800000:=by omega
 by_cases k46:c=46
 ·subst k46;simp only[show((46:UInt8)==46)=true from rfl,bQ,cond_true];rw[show((0:Int),(255:Int))=(((0:Nat):Int),((255:Nat):Int))from rfl,zQ (by omega) (by omega) (by omega),yRm];simp only[aK];rw[Vi (by omega) (by omega)];simp only[aK];exact Vk (by omega) h3 (by omega) (by simp only[Pt.sz];omega)
 rw[show(c==46)=false by simpa using k46];simp only[aZ,cond_false];by_cases k91:c=91
 ·subst k91;simp only[show((91:UInt8)==91)=true from rfl,bQ,cond_true];rw[aB (zXs h),Uz,Qd h,zIn (by omega) (by simp only[List.length_cons];omega) (by simp only[List.length_cons];omega)];simp only[aK];cases hbk:Gi (91::r1)with
  |none =>
   simp only[zCo];rw[aI (by rfl)];exact⟨_,_,_,rfl⟩
  |some x =>
   obtain⟨p,k⟩:=x;have hk:=zIm hbk;simp only[zCo];rw[aC (by rfl),Vi (by omega) (by omega),kF h (by omega) hk.2];simp only[aK];exact Vk (by omega) (zCp h k) (by omega) (by simp only[Pt.sz];omega)
 rw[show(c==91)=false by simpa using k91];simp only[aZ,cond_false];by_cases k40:c=40
 ·subst k40;simp only[show((40:UInt8)==40)=true from rfl,bQ,cond_true];by_cases h9:b=9
  ·rw[show(b==9)=true by simpa using h9,aI (by rw[beq_iff_eq];omega)];exact⟨_,_,_,rfl⟩
  ·rw[show(b==9)=false by simpa using h9,aC (by rw[beq_eq_false_iff_ne];omega)];simp only[cond_false];have hR:=hrow (by omega);have hG:=hgood (by omega);rw[aW (x:=(b:Int)+1) (by omega) (by omega),aW (x:=deep+1) (by omega) (by omega),show(b:Int)+1=((b+1:Nat):Int)by omega];cases ho:rows r1 (b+1)with
   |er e k =>
    rw[ho]at hR hG;obtain⟨l',b',i',hR⟩:=hR;rw[hR];simp only[aK];have:=hG.1.1;rw[aI (by simp;omega)];exact⟨_,_,_,rfl⟩
   |ok rs r2 b2 =>
    rw[ho]at hR hG;obtain⟨g1,g2,g3,g4,g5,g6,g7,g8⟩:=hG;unfold Xt at hR;rw[hR];simp only[aK];have hs2:=g1.trans h3;rw[aC (by rfl),Ij hs2];have hz:=Xm rs g6 (λts h=>(g7 ts h).1);rcases g8 with rfl|⟨r3,rfl⟩
    ·exact⟨_,_,_,rfl⟩
    ·obtain⟨q1,q2,q3,q4,q5,q6⟩:=Xr hs2 (by omega);have hlen:(l++(dO rs).enc l.length).length=l.length+(dO rs).sz:=by rw[List.length_append,Pt.bX]
     simp only[List.isEmpty_cons,aZ];have hrp:=(dO rs).dN;rw[Vh (by omega),q4];simp only[aK];have:=Vk (n:=n) (s:=s) (r:=r3) (b:=b2) (l:=l) (t:=.group (dO rs) (b+1)) (by omega) q3 (by omega) (by simp only[Pt.sz];omega);have e1:IntKind.wrap .i64 (((l++(dO rs).enc l.length).length:Int)-1)=(dO rs).top l.length:=by rw[hlen,aW (by omega) (by omega)];rfl
     rw[e1];have e2:l++(dO rs).enc l.length++[(7,[0,0,0,0],(dO rs).top l.length,0,0,0,((b+1:Nat):Int),())]=l++(Pt.group (dO rs) (b+1)).enc l.length:=by simp only[Pt.enc,List.append_assoc]
     rw[e2];exact this
 rw[show(c==40)=false by simpa using k40];simp only[aZ,cond_false];by_cases k92:c=92
 ·subst k92;simp only[show((92:UInt8)==92)=true from rfl,bQ,cond_true];rw[Ij h3];cases r1 with
  |nil=>exact⟨_,_,_,rfl⟩
  |cons d r2 =>
   obtain⟨g1,g2,g3,g4,g5,g6⟩:=Xr h3 (by omega);simp only[List.isEmpty_cons,aZ];have hw:IntKind.wrap .i64 (psn s (92::d::r2)+2)=psn s r2:=kF h (by omega) (k:=2) (by simp);have hw1:IntKind.wrap .i64 (psn s (92::d::r2)+1)=psn s (d::r2):=kF h (by omega) (k:=1) (by simp);rw[aB g1,g2,hw];simp only[List.length_cons]at hl;by_cases zIt:d=110
   ·subst zIt;rw[aI (by rfl),Jj _ (by simp;omega) (by simp),zXw];simp only[show((110:UInt8)==110)=true from rfl,cond_true,aK];rw[Vi (by omega) (by omega)];simp only[aK];exact Vk (by omega) g3 (by omega) (by simp only[Pt.sz];omega)
   rw[aC (show((d.toNat:Int)==110)=false from (eqC d 110).trans (by simpa using zIt)),show(d==110)=false by simpa using zIt];simp only[cond_false];rw[yCi (by simp;omega) (by simp)];simp only[aK];rw[show([46,91,92,40,41,42,43,63,123,125,124,94,36,47]:List UInt8).contains d=vE.contains d from rfl];cases vE.contains d
   ·simp only[aZ,cond_false];by_cases h1:49<=d.toNat
    ·rw[aI (by simp;omega)];by_cases h2:d.toNat<=57
     ·rw[aI (by simp;omega),decide_eq_true h1,decide_eq_true h2];exact⟨_,_,_,rfl⟩
     ·rw[aC (by simp;omega),decide_eq_false h2,Bool.and_false];exact⟨_,_,_,rfl⟩
    ·rw[aC (by simp;omega),decide_eq_false h1];exact⟨_,_,_,rfl⟩
   ·simp only[bQ,cond_true];have hle2:=kS h;simp only[List.length_cons]at hle2;rw[aB (by unfold psn;simp only[List.length_cons];simp;omega)];have ht:(s.take (psn s r2).toNat).drop (psn s (d::r2)).toNat=[d]:=take_at h3 (k:=1) (by simp);rw[ht,Jj _ (by simp;omega) (by simp),zXw];simp only[aK];rw[Vi (by omega) (by omega)];simp only[aK];exact Vk (by omega) g3 (by omega) (by simp only[Pt.sz];omega)
 rw[show(c==92)=false by simpa using k92];simp only[aZ,cond_false];rw[aB (by unfold psn;simp only[List.length_cons];simp;omega)];have ht:(s.take (psn s r1).toNat).drop (psn s (c::r1)).toNat=[c]:=take_at h (k:=1) (by simp);rw[ht,Jj _ (by simp;omega) (by simp),zXw];simp only[aK];rw[Vi (by omega) (by omega)];simp only[aK];exact Vk (by omega) h3 (by omega) (by simp only[Pt.sz];omega)
end
end Go.Dec
namespace Go.Dec
section
variable {n:Nat}{s:List UInt8}{l:List Nd}
theorem yOc{pre:List Pt}{t:Pt}{post:List Pt}{o:Nat}:aR (0:Int) (gB o (pre++t::post)) ((pre.length:Nat):Int)=t.top (o+szA pre):=by
 have hl:pre.length<(gB o (pre++t::post)).length:=by rw[oG];simp
 rw[gX hl];have:=zIp pre t post o 0;rw[List.getD_eq_getElem?_getD,List.getElem?_eq_getElem hl]at this;exact this
theorem yRn{mk:Pt->Pt->Pt}{kind:Int}(hj:Joins mk kind){bb:Int}{ts:List Pt}(hl:l.length+szL ts<900000):∀ (k m:Nat) (pre suf:List Pt) (u:Pt),pre.length=k->ts=pre++suf->szA pre+u.sz+pre.length<=szL ts->k<m ->
 fix (vX n) m (gB l.length ts,kind,(k:Int)-1,l++dM l.length pre++u.enc (l.length+szA pre),bb,0,0,0,0,0,[],()) =
  some (l++(pre.foldr mk u).enc l.length,bb,0,0,()):=by
 intro k;induction k with
 |zero =>
  intro m pre suf u hk hts hsz hm;have:pre=[]:=List.eq_nil_of_length_eq_zero hk;subst this;rw[bI hm,vX];simp only;rw[aC (by simp)];simp[dM,szA]
 |succ k ih =>
  intro m pre suf u hk hts hsz hm;obtain⟨pre',t,rfl⟩:∃ pre' t,pre=pre'++[t]:=by
   rcases List.eq_nil_or_concat pre with rfl|⟨p,t,rfl⟩
   ·simp at hk
   ·exact⟨p,t,by simp⟩
  have hk':pre'.length=k:=by simpa using hk
  have zIv:ts=pre'++t::suf:=by rw[hts];simp
  have hat:=yOc (pre:=pre') (t:=t) (post:=suf) (o:=l.length);rw[<- zIv,hk']at hat;have hlen:(gB l.length ts).length=ts.length:=oG _ _;have htl:k<ts.length:=by rw[zIv];simp;omega
  rw[bI (by omega),vX];simp only;rw[show((k+1:Nat):Int)-1=(k:Int)by omega];rw[aI (by simp),hlen,aB (fQ htl),show Ty.dflt (.int .i64)=(0:Int)from rfl,hat];rw[oL]at hsz;simp only[szA,List.length_append,List.length_cons,List.length_nil]at hsz;rw[Vh (by simp only[List.length_append,mF,oL,Pt.bX,szA];omega)];simp only[aK];rw[aW (x:=(k:Int)-1) (by omega) (by omega)];have hc:=ih (m-1) pre' (t::suf) (mk t u) hk' zIv (by rw[hj.sz];omega) (by omega);have hup:=u.dN;have e1:IntKind.wrap .i64 (((l++dM l.length (pre'++[t])++u.enc (l.length+szA (pre'++[t]))).length:Int)-1)=u.top (l.length+szA (pre'++[t])):=by
   have e:(l++dM l.length (pre'++[t])++u.enc (l.length+szA (pre'++[t]))).length=l.length+szA (pre'++[t])+u.sz:=by
    simp only[List.length_append,mF,Pt.bX]
   have hs2:szA (pre'++[t])=szA pre'+t.sz:=by rw[oL];simp[szA]
   rw[e,aW (by omega) (by omega)];rfl
  have e2:l++dM l.length (pre'++[t])++u.enc (l.length+szA (pre'++[t]))++[(kind,[0,0,0,0],t.top (l.length+szA pre'),u.top (l.length+szA (pre'++[t])),0,0,0,())]=l++dM l.length pre'++(mk t u).enc (l.length+szA pre'):=by
   simp only[wF,oL,szA,hj.enc,List.append_assoc,Nat.add_zero,Nat.add_assoc]
  rw[e1,e2,hc,List.foldr_append];rfl
theorem yJv{mk:Pt->Pt->Pt}{kind:Int}(hj:Joins mk kind){bb:Int}{ts:List Pt}(hne:ts≠[])(hn:ts.length+10<=n)(hl:l.length+szL ts<900000):kW n ((l++dM l.length ts,bb,0,0,()),gB l.length ts,kind)=some (l++(rO mk ts).enc l.length,bb,0,0,()):=by
 obtain⟨pre,t,rfl⟩:∃ pre t,ts=pre++[t]:=by
  rcases List.eq_nil_or_concat ts with rfl|⟨p,t,rfl⟩
  ·exact absurd rfl hne
  ·exact⟨p,t,by simp⟩
 have hsl:=Bf (pre++[t]);have hlen:(pre++[t]).length=pre.length+1:=by simp
 unfold kW;simp only;rw[oG,hlen];rw[hlen]at hn hsl;rw[aW (by omega) (by omega),show((pre.length+1:Nat):Int)-2=(pre.length:Int)-1 by omega];have hsz:szA (pre++[t])=szA pre+t.sz:=by rw[oL];rfl
 have hc:=yRn (n:=n) (l:=l) hj (bb:=bb) (ts:=pre++[t]) hl pre.length n pre [t] t rfl rfl (by omega) (by omega);have e:l++dM l.length (pre++[t])=l++dM l.length pre++t.enc (l.length+szA pre):=by rw[wF,List.append_assoc]
 rw[e,hc,zCy]
def zTt(s:List UInt8)(c k:Nat)(e:Option (Er1 × Int)):Prop:=∃ (l':List Nd) (b' i':Int),e=some ((l',b',((s.length-k:Nat):Int),(c:Int),()),i')
def yGo (n:Nat) (s:List UInt8) (rows:List UInt8->Nat->jL (List (List Pt))) (rr:Er4->Option (Er1×Int)) (F0:Nat):Prop :=∀ (r:List UInt8) (b:Nat) (l:List Nd) (deep:Int),r <:+ s->b+1<=9->F0<=b+1->0<=deep->deep<=b+1->deep ≠ 0->l.length+3*r.length < 600000->Xt s l (rows r (b+1)) (rr (s,psn s r,(l,((b+1:Nat):Int),0,0,()),deep))
theorem yRo{rows:List UInt8->Nat->jL (List (List Pt))}{rr:Er4->Option (Er1 × Int)}{F0:Nat}{deep:Int}(hs:s.length<200000)(hn:s.length+500<=n)(hgood:∀ r b,b+1<=9->F0<=b+1->uX r (b+1) (rows r (b+1)))(hrow:yGo n s rows rr F0)(hd:0<=deep):∀ (f m:Nat) (r:List UInt8) (b:Nat) (acc:List Pt),r <:+ s->b<=9->F0<=b+1->deep<=b->l.length+szL acc+3*r.length<600000->r.length<f->r.length<m ->
 match kT rows f r b acc with
 |.er c k=>zTt s c k (fix (kJ n rr) m (s,psn s r,deep,l++dM l.length acc,(b:Int),0,0,0,0,0,gB l.length acc,[],()))
 |.ok ts r2 b2=>fix (kJ n rr) m (s,psn s r,deep,l++dM l.length acc,(b:Int),0,0,0,0,0,gB l.length acc,[],())=ob (kW n ((l++dM l.length ts,(b2:Int),0,0,()),gB l.length ts,4)) λy=>some (y,psn s r2):=by
 intro f;induction f with
 |zero=>intro m r b acc _ _ _ _ _ h;omega
 |succ f ih =>
  intro m r b acc h hb h0 hdb hw hf hm;have hz2:=Bf acc;have hll:(l++dM l.length acc).length=l.length+szA acc:=by rw[List.length_append,mF]
  rw[bI (by omega),kJ];simp only;rw[zYw h (by omega)];unfold kT;simp only[aK];cases hc:mY r
  case true=>simp only[Bool.not_true,aZ,cond_true]
  simp only[Bool.not_false,bQ,cond_false];cases r with
  |nil=>cases hc
  |cons c r1 =>
   have hig:=Gm (rows:=rows) hb (show c::r1≠[]by simp) (λr h=>hgood r b h h0);simp only[mY,Bool.or_eq_false_iff,beq_eq_false_iff_ne]at hc;simp only[List.length_cons]at hw hf hm;have hit:=yVw (n:=n) (s:=s) (b:=b) (l:=l++dM l.length acc) (rows:=rows) (rr:=rr) (deep:=deep) hn h hs hb (by rw[hll];omega) ⟨hd,by omega⟩ hc (λh9=>hgood r1 b h9 h0)
    (λh9=>hrow r1 b _ (deep+1) ((List.suffix_cons c r1).trans h) h9 h0 (by omega) (by omega) (by omega) (by rw[hll];omega))
   cases ho:lN rows (c::r1) b with
   |er e k =>
    rw[ho]at hit hig;obtain⟨l',b',i',hit⟩:=hit;have:=hig.1.1;rw[hit];simp only[aK];rw[aI (by simp;omega)];exact⟨_,_,_,rfl⟩
   |ok t r2 b2 =>
    rw[ho]at hit hig;unfold FOK at hit;obtain⟨g1,g2,g3,g4,g5,g6⟩:=hig;simp only[List.length_cons]at g2;have htp:=t.dN;rw[hit];simp only[aK];rw[aC (by rfl)];have hlt:(l++dM l.length acc++t.enc (l++dM l.length acc).length).length=l.length+szA acc+t.sz:=by rw[List.length_append,Pt.bX,hll]
    rw[hlt,aW (by omega) (by omega),aB (Nat.ble_eq_true_of_le (by rw[oG];simp only[List.length_cons,List.length_nil,room];omega))];have e1:l++dM l.length acc++t.enc (l++dM l.length acc).length=l++dM l.length (acc++[t]):=by rw[wF,hll,List.append_assoc]
    have e2:gB l.length acc++[((l.length+szA acc+t.sz:Nat):Int)-1]=gB l.length (acc++[t]):=by rw[Km];rfl
    rw[e1,e2];have:=ih (m-1) r2 b2 (acc++[t]) (g1.trans h) g4 (by omega) (by omega) (by rw[zPb];simp only[szL];omega) (by omega) (by omega);exact this
theorem yOd{rows:List UInt8->Nat->jL (List (List Pt))}{F0:Nat}(hgood:∀ r b,b+1<=9->F0<=b+1->uX r (b+1) (rows r (b+1))){r r2:List UInt8}{b b2:Nat}{f:Nat}(hb:b<=9)(h0:F0<=b+1)(hf:r.length<f)(hc:mY r=false)(h:kT rows f r b []=.ok [] r2 b2):False:=by
 cases f with
 |zero=>omega
 |succ f =>
  unfold kT at h;rw[hc]at h;simp only[cond_false]at h;have hig:=Gm (rows:=rows) hb (show r≠[]by intro h;rw[h]at hc;cases hc) (λr h=>hgood r b h h0);cases ho:lN rows r b with
  |er e k=>rw[ho]at h;cases h
  |ok t r1 b1 =>
   rw[ho]at h hig;simp only at h;obtain⟨g1,g2,g3,g4,g5,g6⟩:=hig;have:=Bh F0 hgood f r1 b1 ([]++[t]) g4 (by omega) (by omega);rw[h]at this;obtain⟨new,k1,_⟩:=this;simp at k1
theorem yXq{rows:List UInt8->Nat->jL (List (List Pt))}{rr:Er4->Option (Er1 × Int)}{F0:Nat}{deep:Int}{top:Bool}(hs:s.length<200000)(hn:3*s.length+500<=n)(hgood:∀ r b,b+1<=9->F0<=b+1->uX r (b+1) (rows r (b+1)))(hrow:yGo n s rows rr F0)(hd:0<=deep)(htop:top=(deep==0)){r:List UInt8}{b:Nat}(h:r <:+ s)(hb:b<=9)(h0:F0<=b+1)(hdb:deep<=b)(hw:l.length+3*r.length<600000):match kT rows (r.length+1) r b []with
 |.er c k=>zTt s c k (yI n rr (s,psn s r,(l,(b:Int),0,0,()),deep))
 |.ok [] r2 _=>zTt s (bif top&&[41].isPrefixOf r2 then 41 else 40) r2.length (yI n rr (s,psn s r,(l,(b:Int),0,0,()),deep))
 |.ok (t::ts) r2 b2=>yI n rr (s,psn s r,(l,(b:Int),0,0,()),deep)=some ((l++(dX (t::ts)).enc l.length,(b2:Int),0,0,()),psn s r2):=by
 have hle:=kS h;have hmain:mY r=false->match kT rows (r.length+1) r b []with
  |.er c k=>zTt s c k (fix (kJ n rr) n (s,psn s r,deep,l,(b:Int),0,0,0,0,0,[],[],()))
  |.ok [] r2 _=>False
  |.ok (t::ts) r2 b2=>fix (kJ n rr) n (s,psn s r,deep,l,(b:Int),0,0,0,0,0,[],[],())=some ((l++(dX (t::ts)).enc l.length,(b2:Int),0,0,()),psn s r2):=by
  intro hc;have hi:=yRo (n:=n) (s:=s) (l:=l) hs (by omega) hgood hrow hd (r.length+1) n r b [] h hb h0 hdb (by simp only[szL];omega) (by omega) (by omega);have hg:=Bh (rows:=rows) F0 hgood (r.length+1) r b [] hb h0 (by omega);simp only[dM,gB,List.append_nil]at hi;cases ho:kT rows (r.length+1) r b []with
  |er e k=>rw[ho]at hi;exact hi
  |ok ts r2 b2 =>
   rw[ho]at hi hg;obtain⟨new,k1,k2,k3,k4,k5,k6,k7,k8⟩:=hg;rw[List.nil_append]at k1;subst k1;cases ts with
   |nil=>exact yOd (rows:=rows) (f:=r.length+1) hgood hb h0 (by omega) hc ho
   |cons t ts =>
    simp only at hi ⊢;have hsl:=Bf (t::ts);rw[hi,yJv zRh (by simp) (by omega) (by omega)];rfl
 have hclose:mY r=true->kT rows (r.length+1) r b []=.ok [] r b:=by
  intro hc;unfold kT;rw[hc];rfl
 unfold yI;simp only;rw[zYw h (by omega)];simp only[aK];have hb0:Pm n rr=kJ n rr:=rfl;have hbb:Lm n rr=kJ n rr:=rfl;rw[hb0,hbb];cases r with
 |nil =>
  rw[hclose rfl,aC (by unfold psn;simp)];simp only[mY,bQ,yCj,aK,List.isPrefixOf,Bool.and_false,cond_false];exact⟨_,_,_,rfl⟩
 |cons c r1 =>
  obtain⟨h1,h2,h3,h4,h5,h6⟩:=Xr h (by omega);rw[aI h5,aB h1,h2,show((c.toNat:Int)==41)=(c==41)from eqC c 41];cases hc:mY (c::r1)
  ·have hm:=hmain hc;have n41:(c==41)=false:=by simp only[mY,Bool.or_eq_false_iff]at hc;exact hc.2
   rw[n41];simp only[aZ];cases ho:kT rows ((c::r1).length+1) (c::r1) b []with
   |er e k=>rw[ho]at hm;exact hm
   |ok ts r2 b2 =>
    rw[ho]at hm;cases ts with
    |nil=>exact hm.elim
    |cons t ts=>exact hm
  ·rw[hclose hc];simp only[bQ];by_cases k41:c=41
   ·subst k41;rw[show((41:UInt8)==41)=true from rfl];rw[<- htop];cases top
    ·exact⟨_,_,_,rfl⟩
    ·exact⟨_,_,_,rfl⟩
   ·rw[show(c==41)=false by simpa using k41];have e:(bif top&&[41].isPrefixOf (c::r1)then 41 else 40)=40:=by
     rw[show([41]:List UInt8).isPrefixOf (c::r1)=false by simp[List.isPrefixOf];exact λh=>k41 h.symm,Bool.and_false];rfl
    simp only[e];exact⟨_,_,_,rfl⟩
theorem yVx{rows:List UInt8->Nat->jL (List (List Pt))}{rr:Er4->Option (Er1 × Int)}{F0:Nat}{deep:Int}{top:Bool}(hs:s.length<200000)(hn:3*s.length+500<=n)(hgood:∀ r b,b+1<=9->F0<=b+1->uX r (b+1) (rows r (b+1)))(hrow:yGo n s rows rr F0)(hd:0<=deep)(htop:top=(deep==0)):∀ (f m:Nat) (r:List UInt8) (b:Nat) (acc:List (List Pt)),(∀ x∈acc,x≠[])->r <:+ s->b<=9->F0<=b+1->deep<=b->l.length+iM acc+3*r.length<600000->iM acc+3*r.length<=3*s.length->r.length<f->r.length<m ->
 Xt s l (Bz rows top f r b acc) (fix (Cu n rr) m (s,psn s r,deep,l++dM l.length (acc.map dX),(b:Int),0,0,0,0,0,gB l.length (acc.map dX),[],())):=by
 intro f;induction f with
 |zero=>intro m r b acc _ _ _ _ _ _ _ h;omega
 |succ f ih =>
  intro m r b acc hacc h hb h0 hdb hw hws hf hm;have hz:=Cz hacc;have hll:(l++dM l.length (acc.map dX)).length=l.length+szA (acc.map dX):=by rw[List.length_append,mF]
  have hR:=yXq (n:=n) (s:=s) (l:=l++dM l.length (acc.map dX)) hs hn hgood hrow hd htop h hb h0 hdb (by rw[hll];omega);have hg:=Bh (rows:=rows) F0 hgood (r.length+1) r b [] hb h0 (by omega);rw[bI (by omega),Cu];simp only;unfold Bz;cases ho:kT rows (r.length+1) r b []with
  |er e k =>
   rw[ho]at hR hg;obtain⟨l',b',i',hR⟩:=hR;have:=hg.1.1;rw[hR];simp only[aK];rw[aI (by simp;omega)];exact⟨_,_,_,rfl⟩
  |ok ts r2 b2 =>
   rw[ho]at hR hg;obtain⟨new,k1,k2,k3,k4,k5,k6,k7,k8⟩:=hg;rw[List.nil_append]at k1;subst k1;have k2l:=k2.length_le;cases ts with
   |nil =>
    simp only at hR ⊢;obtain⟨l',b',i',hR⟩:=hR;rw[hR];simp only[aK];rw[aI (by cases top&&[41].isPrefixOf r2<;>rfl)];exact⟨_,_,_,rfl⟩
   |cons t ts =>
    simp only at hR ⊢;rw[hR];simp only[aK];rw[aC (by rfl)];have hrz:=zEi t ts;have hrp:=(dX (t::ts)).dN;have hlt:(l++dM l.length (acc.map dX)++(dX (t::ts)).enc (l++dM l.length (acc.map dX)).length).length=l.length+szA (acc.map dX)+(dX (t::ts)).sz:=by rw[List.length_append,Pt.bX,hll]
    rw[hlt,aW (by omega) (by omega),aB (Nat.ble_eq_true_of_le (by rw[oG,List.length_map];simp only[List.length_cons,List.length_nil,room];omega))];have e1:l++dM l.length (acc.map dX)++(dX (t::ts)).enc (l++dM l.length (acc.map dX)).length=l++dM l.length ((acc++[t::ts]).map dX):=by rw[List.map_append,List.map_cons,List.map_nil,wF,hll,List.append_assoc]
    have e2:gB l.length (acc.map dX)++[((l.length+szA (acc.map dX)+(dX (t::ts)).sz:Nat):Int)-1]=gB l.length ((acc++[t::ts]).map dX):=by rw[List.map_append,List.map_cons,List.map_nil,Km];rfl
    rw[e1,e2];have hs2:=k2.trans h;have hacc':∀ x∈acc++[t::ts],x≠[]:=by
     intro x hx;rcases List.mem_append.1 hx with hx|hx
     ·exact hacc x hx
     ·rw[List.mem_singleton]at hx;subst hx;simp
    have hz':=Cz hacc';have hz2:iM (acc++[t::ts])=iM acc+szL (t::ts):=by rw[Cx];simp[iM]
    have hsl:=Bf ((acc++[t::ts]).map dX);rw[List.length_map]at hsl;have yPj:kW n ((l++dM l.length ((acc++[t::ts]).map dX),(b2:Int),0,0,()),gB l.length ((acc++[t::ts]).map dX),5)=some (l++(dO (acc++[t::ts])).enc l.length,(b2:Int),0,0,()):=by
     refine yJv zCz (by simp) ?_ (by omega);rw[List.length_map];have:(acc++[t::ts]).length=acc.length+1:=by simp
     omega
    rw[Ij hs2];cases r2 with
    |nil =>
     simp only[List.isEmpty_nil,bQ,List.isPrefixOf,cond_false];rw[yPj];rfl
    |cons c r3 =>
     obtain⟨q1,q2,q3,q4,q5,q6⟩:=Xr hs2 (by omega);simp only[List.isEmpty_cons,aZ];rw[aB q1,q2];have ep:([124]:List UInt8).isPrefixOf (c::r3)=(c==124):=by simp[List.isPrefixOf];exact zCj _ _
     have en:((c.toNat:Int) != 124)=!(c==124):=by rw[bne,show((c.toNat:Int)==124)=(c==124)from eqC c 124]
     rw[ep,en,q4];cases c==124
     ·simp only[Bool.not_false,bQ,cond_false];rw[yPj];rfl
     ·simp only[Bool.not_true,aZ,cond_true,List.drop_succ_cons,List.drop_zero];simp only[List.length_cons]at k2l k3;exact ih (m-1) r3 b2 (acc++[t::ts]) hacc' q3 k5 (by omega) (by omega) (by omega) (by omega) (by omega) (by omega)
theorem yVy(hs:s.length<150000):∀ (f n:Nat) (top:Bool) (r:List UInt8) (b:Nat) (l:List Nd) (deep:Int),3*s.length+500+f<=n->r <:+ s->11<=f+b->b<=9->0<=deep->deep<=b->top=(deep==0)->l.length+3*r.length<600000 ->
 Xt s l (mQ f top r b) (sS n (s,psn s r,(l,(b:Int),0,0,()),deep)):=by
 intro f;induction f with
 |zero=>intro n top r b l deep _ _ h hb;omega
 |succ f ih =>
  intro n top r b l deep hn h hf hb hd hdb htop hl;obtain⟨n,rfl⟩:∃ k,n=k+1:=⟨n-1,by omega⟩;have hle:=kS h;have yOe:sS (n+1) (s,psn s r,(l,(b:Int),0,0,()),deep)=xP n (sS n) (s,psn s r,(l,(b:Int),0,0,()),deep):=rfl;rw[yOe];unfold xP mQ;simp only;have:=yVx (n:=n) (s:=s) (l:=l) (rows:=mQ f false) (rr:=sS n) (F0:=11-f) (deep:=deep) (top:=top) (by omega) (by omega) (λr b h1 h2=>zT f false r (b+1) (by omega) h1)
   (λr2 b2 l2 yXr h2 h9 h0 hd2 xBp hne hl2=>?_) hd htop (r.length+1) n r b [] (by simp) h hb (by omega) hdb (by simp only[iM];omega) (by simp only[iM];omega) (by omega) (by omega)
  ·simpa only[List.map_nil,dM,gB,List.append_nil]using this
  ·exact ih n false r2 (b2+1) l2 yXr (by omega) h2 (by omega) h9 hd2 (by omega) (by rw[eq_comm,beq_eq_false_iff_ne];exact hne) (by omega)
end
theorem zPo{n:Nat}{s:List UInt8}(hs:s.length<150000)(hn:3*s.length+600<=n):Az n s=some (Qe (wL s)):=by
 unfold Az;simp only;cases hsv:s with
 |nil=>rfl
 |cons c s0 =>
  have he:wL (c::s0)=match mQ 11 true (c::s0) 0 with
   |.er e k=>.inr (e,(c::s0).length-k)
   |.ok rs r _ =>
    match r with
    |[]=>bif decide ((dO rs).sz>120)then .inr (2,0)else .inl (dO rs)
    |_=>.inr (41,(c::s0).length-r.length):=rfl
  rw[he,<- hsv];rw[aC (by rw[hsv];rfl)];have hb:=yVy hs 11 n true s 0 [] 0 (by omega) (List.suffix_refl _) (by omega) (by omega) (by omega) (by omega) rfl (by simp only[List.length_nil];omega);have hgood:=zT 11 true s 0 (by omega) (by omega);have hp:psn s s=0:=by unfold psn;omega
  rw[hp]at hb;have hb:Xt s [] (mQ 11 true s 0) (sS n (s,0,([],(0,(0,(0,())))),0)):=hb;cases ho:mQ 11 true s 0 with
  |er e k =>
   rw[ho]at hb hgood;obtain⟨l',b',i',hb⟩:=hb;have:=hgood.1.1;rw[hb];simp only[aK];rw[aI (by simp;omega)];rfl
  |ok rs r2 b2 =>
   rw[ho]at hb hgood;unfold Xt at hb;obtain⟨g1,g2,g3,g4,g5,g6,g7,g8⟩:=hgood;rw[hb];simp only[aK];rw[aC (by rfl),List.nil_append,List.length_nil,Pt.bX];rcases g8 with rfl|⟨r3,rfl⟩
   ·rw[aC (by unfold psn;simp)];by_cases zCw:(dO rs).sz>120
    ·rw[aI (by simp;omega),decide_eq_true zCw];rfl
    ·rw[aC (by simp;omega),decide_eq_false zCw];rfl
   ·obtain⟨q1,q2,q3,q4,q5,q6⟩:=Xr g1 (by omega);rw[aI q5];rfl
end Go.Dec
namespace Go.Dec
theorem yRp{n:Nat}{l:List Nd}(hl:l.length<n)(hl2:l.length<1000000):Ki n l=some l:=by
 have:Ki n l=zAw n l:=rfl;rw[this,yVl hl hl2]
end Go.Dec
