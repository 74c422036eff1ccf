/- Part of a proof over this seat: a library of my own, and what it says of this seat. No statement is proved here. -/
import Derived.Test.YtfbilefiaminnaaGreatDoorPartBN
namespace Go.Dec
def yLo (e:Nat):Prop:=40<=e ∧ e<=44
def Zm(t:Pt)(r:List UInt8)(b:Nat)(en:List Bool):Res Pt->Prop
 |.ok t' r' b' en'=>r' <:+ r/\b'=b/\en'=en/\t'.sz+3*r'.length<=t.sz+3*r.length
 |.er e _=>yLo e
theorem yDe{t:Pt}{lo hi:Int}{r0 r:List UInt8}{b:Nat}{en:List Bool}(h:r <:+ r0)(h2:r.length<r0.length):Zm t r0 b en (zFc t lo hi r b en):=by
 unfold zFc;cases [42].isPrefixOf r||[92,123].isPrefixOf r
 ·exact⟨h,rfl,rfl,by simp only[Pt.sz];omega⟩
 ·exact⟨by omega,by omega⟩
theorem yDf(r:List UInt8):(Ho r).2 <:+ r:=List.drop_suffix _ _
theorem zRt(t:Pt)(r:List UInt8)(b:Nat)(en:List Bool):Zm t r b en (Mx t r b en):=by
 have hg:∀ k,Zm t r b en (.er 43 k):=λk=>⟨by omega,by omega⟩
 unfold Mx;cases h1:[42].isPrefixOf r
 case true =>
  have:=lU h1;simp only[List.length_cons,List.length_nil]at this;exact yDe (List.drop_suffix _ _) (by rw[List.length_drop];omega)
 simp only[cond_false];cases h2:[92,123].isPrefixOf r
 case false=>exact⟨List.suffix_refl _,rfl,rfl,aP _⟩
 simp only[cond_true];have hp:=lU h2;simp only[List.length_cons,List.length_nil]at hp;have n2:=yDf (r.drop 2);cases hlo:Ho (r.drop 2)with
 |mk lo r1 =>
  rw[hlo]at n2;simp only at n2;have l2:=n2.length_le;rw[List.length_drop]at l2;have hf:∀ {lo hi:Int}{x:List UInt8},x <:+ r1->Zm t r b en (zFc t lo hi (x.drop 2) b en):=by
   intro lo hi x hx;have l3:=hx.length_le;exact yDe ((List.drop_suffix _ _).trans (hx.trans (n2.trans (List.drop_suffix _ _)))) (by rw[List.length_drop];omega)
  cases lo with
  |none=>exact hg _
  |some lo =>
   simp only;cases [44].isPrefixOf r1
   ·simp only[cond_false];cases [92,125].isPrefixOf r1&&decide (lo<=255)&&decide (1<=lo)
    ·exact hg _
    ·exact hf (List.suffix_refl _)
   ·simp only[cond_true];have n3:=(yDf (r1.drop 1)).trans (List.drop_suffix 1 r1);cases hhi:Ho (r1.drop 1)with
    |mk hi r2 =>
     rw[hhi]at n3;cases hi with
     |none =>
      simp only;cases [92,125].isPrefixOf r2&&decide (lo<=255)
      ·exact hg _
      ·exact hf n3
     |some hi =>
      simp only;cases [92,125].isPrefixOf r2&&decide (lo<=255)&&decide (hi<=255)&&decide (lo<=hi)&&decide (1<=hi)
      ·exact hg _
      ·exact hf n3
def zFf(r:List UInt8):Res Pt->Prop
 |.ok t r' b' en'=>r' <:+ r/\t.sz+2+3*r'.length<=3*r.length/\b'<=9/\en'.length=10
 |.er e _=>yLo e
def zCw(r:List UInt8):Res (Option Pt)->Prop
 |.ok t r' b' en'=>r' <:+ r/\(match t with|none=>0|some t=>t.sz+1)+3*r'.length<=3*r.length/\b'<=9/\en'.length=10
 |.er e _=>yLo e
theorem zVv{row:List UInt8->Nat->List Bool->Res (Option Pt)}{first:Bool}{r:List UInt8}{b:Nat}{en:List Bool}(hb:b<=9)(he:en.length=10)(hrow:∀ r,b+1<=9->zCw r (row r (b+1) en)):zFf r (Gm row first r b en):=by
 have hg:∀ e k,40<=e->e<=44->zFf r (.er e k):=λe k h1 h2=>⟨h1,h2⟩
 unfold Gm;cases r with
 |nil=>exact hg _ _ (by omega) (by omega)
 |cons c r1 =>
  have hone:∀ p,zFf (c::r1) (.ok (.bytes p) r1 b en):=λp=>⟨List.suffix_cons _ _,by simp only[Pt.sz,List.length_cons];omega,hb,he⟩
  simp only;cases c==46
  case true=>exact hone _
  simp only[cond_false];cases c==91
  case true =>
   simp only[cond_true];cases hk:zJl (c::r1)with
   |none=>exact hg _ _ (by omega) (by omega)
   |some x =>
    obtain⟨p,k⟩:=x;have:=yDb hk;exact⟨List.drop_suffix _ _,by simp only[Pt.sz,List.length_drop];omega,hb,he⟩
  simp only[cond_false];cases c==92
  case false=>exact hone _
  simp only[cond_true];cases r1 with
  |nil=>exact hg _ _ (by omega) (by omega)
  |cons d r2 =>
   have yTg:∀ t:Pt,t.sz=1->zFf (c::d::r2) (.ok t r2 b en):=λt ht=>⟨(List.suffix_cons _ _).trans (List.suffix_cons _ _),by simp only[ht,List.length_cons];omega,hb,he⟩
   simp only;cases d==40
   case true =>
    simp only[cond_true];cases hb9:b==9
    case true=>exact hg _ _ (by omega) (by omega)
    have hb9:b≠9:=by simpa using hb9
    simp only[cond_false];have hr:=hrow r2 (by omega);cases ho:row r2 (b+1) en with
    |er e k=>rw[ho]at hr;exact hr
    |ok t r3 b3 en3 =>
     rw[ho]at hr;obtain⟨h1,h2,h3,h4⟩:=hr;cases t with
     |none=>exact hg _ _ (by omega) (by omega)
     |some t =>
      simp only;cases hp:[92,41].isPrefixOf r3
      ·exact hg _ _ (by omega) (by omega)
      ·have hl:=lU hp;simp only[List.length_cons,List.length_nil]at hl;refine⟨(List.drop_suffix _ _).trans (h1.trans ((List.suffix_cons _ _).trans (List.suffix_cons _ _))),?_,h3,?_⟩
       ·simp only[Pt.sz,List.length_drop,List.length_cons];simp only at h2;omega
       ·rw[List.length_set];exact h4
   simp only[cond_false];cases decide (49<=d.toNat)&&decide (d.toNat<=57)
   case true =>
    simp only[cond_true];cases en.getD (d.toNat-48) false
    ·exact hg _ _ (by omega) (by omega)
    ·exact yTg _ rfl
   simp only[cond_false];cases d==110
   case true=>exact yTg _ rfl
   simp only[cond_false];cases Et.contains d
   case true=>exact yTg _ rfl
   simp only[cond_false];cases d==123&&first
   ·exact hg _ _ (by omega) (by omega)
   ·exact hg _ _ (by omega) (by omega)
theorem zVw{row:List UInt8->Nat->List Bool->Res (Option Pt)}{f0:Nat}{first:Bool}{r:List UInt8}{b:Nat}{en:List Bool}{t:Pt}{r':List UInt8}{b':Nat}{en':List Bool}(hrow:∀ r b en,en.length=10->b+1<=9->11<=f0+(b+1)->∀ t r' b' en',row r (b+1) en=.ok t r' b' en'->b+1<=b')(he:en.length=10)(hb:b<=9)(hf0:10<=f0+b)(h:Gm row first r b en=.ok t r' b' en'):b<=b':=by
 unfold Gm at h;cases r with
 |nil=>simp at h
 |cons c r1 =>
  simp only at h;cases h1:c==46<;>rw[h1]at h<;>simp only[cond_true,cond_false,Res.ok.injEq]at h
  case true=>omega
  cases h2:c==91<;>rw[h2]at h<;>simp only[cond_true,cond_false]at h
  case true =>
   cases h3:zJl (c::r1)with
   |none=>rw[h3]at h;simp at h
   |some x=>rw[h3]at h;simp only[Res.ok.injEq]at h;omega
  cases h3:c==92<;>rw[h3]at h<;>simp only[cond_true,cond_false,Res.ok.injEq]at h
  case false=>omega
  cases r1 with
  |nil=>simp at h
  |cons d r2 =>
   simp only at h;cases h4:d==40<;>rw[h4]at h<;>simp only[cond_true,cond_false]at h
   case true =>
    cases h5:b==9<;>rw[h5]at h<;>simp only[cond_true,cond_false]at h
    case true=>simp at h
    have hb9:b≠9:=by simpa using h5
    have hr:=hrow r2 b en he (by omega) (by omega);cases ho:row r2 (b+1) en with
    |er e k=>rw[ho]at h;simp at h
    |ok t r3 b3 en3 =>
     have:=hr _ _ _ _ ho;rw[ho]at h;cases t with
     |none=>simp at h
     |some t =>
      simp only at h;cases h6:[92,41].isPrefixOf r3<;>rw[h6]at h<;>simp only[cond_true,cond_false,Res.ok.injEq]at h
      ·simp at h
      ·omega
   cases h5:decide (49<=d.toNat)&&decide (d.toNat<=57)<;>rw[h5]at h<;>simp only[cond_true,cond_false]at h
   case true =>
    cases h6:en.getD (d.toNat-48) false<;>rw[h6]at h<;>simp only[cond_true,cond_false,Res.ok.injEq]at h
    ·simp at h
    ·omega
   cases h6:d==110<;>rw[h6]at h<;>simp only[cond_true,cond_false,Res.ok.injEq]at h
   case true=>omega
   cases h7:Et.contains d<;>rw[h7]at h<;>simp only[cond_true,cond_false,Res.ok.injEq]at h
   case true=>omega
   cases h8:d==123&&first<;>rw[h8]at h<;>simp at h
def szL:List Pt->Nat | []=>0 | t :: ts=>t.sz+1+szL ts
theorem Pm:∀ (a b:List Pt),szL (a++b)=szL a+szL b
 |[],b=>by simp[szL]
 |t::a,b=>by simp[szL,Pm a b];omega
theorem yHc:∀ (ts:List Pt),(match Pk ts with|none=>0|some t=>t.sz+1)=szL ts
 |[]=>rfl
 |t::ts=>by
  have:=yHc ts;unfold Pk szL;cases h:Pk ts with
  |none=>rw[h]at this;simp only at this ⊢;omega
  |some u=>rw[h]at this;simp only[Pt.sz]at this ⊢;omega
def yOx(r:List UInt8)(acc:List Pt):Res (List Pt)->Prop
 |.ok ts r' b' en'=>r' <:+ r/\szL ts+3*r'.length<=szL acc+3*r.length/\b'<=9/\en'.length=10
 |.er e _=>yLo e
theorem zRu{row:List UInt8->Nat->List Bool->Res (Option Pt)}{f0:Nat}(hrow:∀ r b en,en.length=10->b+1<=9->11<=f0+(b+1)->zCw r (row r (b+1) en)/\∀ t r' b' en',row r (b+1) en=.ok t r' b' en'->b+1<=b'):∀ (f:Nat) (first:Bool) (r:List UInt8) (b:Nat) (en:List Bool) (acc:List Pt),r.length<f->b<=9->en.length=10->10<=f0+b->yOx r acc (xL row f first r b en acc)/\∀ t r' b' en',xL row f first r b en acc=.ok t r' b' en'->b<=b':=by
 intro f;induction f with
 |zero=>intro first r b en acc h;omega
 |succ f ih =>
  intro first r b en acc hf hb he hf0
  unfold xL;cases hc:zR r
  case true =>
   refine⟨⟨List.suffix_refl _,aP _,hb,he⟩,?_⟩;intro t r' b' en' h;simp only[cond_true,Res.ok.injEq]at h;omega
  simp only[cond_false];cases hd:[36].isPrefixOf r&&zR (r.drop 1)
  case true =>
   simp only[aD]at hd;have:=lU hd.1;simp only[List.length_cons,List.length_nil]at this;refine⟨⟨List.drop_suffix _ _,?_,hb,he⟩,?_⟩
   ·rw[Pm];simp only[szL,Pt.sz,List.length_drop];omega
   ·intro t r' b' en' h;simp only[cond_true,Res.ok.injEq]at h;omega
  simp only[cond_false];have ha:=zVv (first:=first) (r:=r) hb he (λr hb=>(hrow r b en he hb (by omega)).1);have hab:∀ t r' b' en',Gm row first r b en=.ok t r' b' en'->b<=b':=λt r' b' en' h=>zVw (f0:=f0) (λr b en he hb hf=>(hrow r b en he hb hf).2) he hb hf0 h
  cases ho:Gm row first r b en with
  |er e k=>rw[ho]at ha;exact⟨ha,by intro t r' b' en' h;simp at h⟩
  |ok t r1 b1 en1 =>
   have hb1:=hab _ _ _ _ ho;rw[ho]at ha;obtain⟨a1,a2,a3,a4⟩:=ha;simp only;have ht:=zRt t r1 b1 en1;cases ho2:Mx t r1 b1 en1 with
   |er e k=>rw[ho2]at ht;exact⟨ht,by intro t r' b' en' h;simp at h⟩
   |ok t2 r2 b2 en2 =>
    rw[ho2]at ht;obtain⟨c1,rfl,rfl,c4⟩:=ht;simp only;have hlen:=c1.length_le;have hlen1:=a1.length_le;have ht2:=t.Bl;have:=ih false r2 b2 en2 (acc++[t2]) (by omega) a3 a4 (by omega);cases ho3:xL row f false r2 b2 en2 (acc++[t2])with
    |er e k=>rw[ho3]at this;exact⟨this.1,by intro t r' b' en' h;simp at h⟩
    |ok ts r4 b4 en4 =>
     rw[ho3]at this;obtain⟨⟨d1,d2,d3,d4⟩,d5⟩:=this;have d5:=d5 _ _ _ _ rfl;refine⟨⟨d1.trans (c1.trans a1),?_,d3,d4⟩,?_⟩
     ·rw[Pm]at d2;simp only[szL]at d2;omega
     ·intro t r' b' en' h;simp only[Res.ok.injEq]at h;omega
theorem Pn:∀ (f:Nat) (r:List UInt8) (b:Nat) (en:List Bool),11<=f+b->b<=9->en.length=10->zCw r (nE f r b en)/\∀ t r' b' en',nE f r b en=.ok t r' b' en'->b<=b':=by
 intro f;induction f with
 |zero=>intro r b en h hb;omega
 |succ f ih =>
  intro r b en hf hb he;unfold nE;simp only;have hr1:(bif [94].isPrefixOf r then r.drop 1 else r) <:+ r:=by
   cases [94].isPrefixOf r
   ·exact List.suffix_refl _
   ·exact List.drop_suffix _ _
  have hacc:szL (bif [94].isPrefixOf r then [Pt.bol]else [])+3*(bif [94].isPrefixOf r then r.drop 1 else r).length<=3*r.length:=by
   cases h:[94].isPrefixOf r
   ·simp[szL]
   ·have:=lU h;simp only[List.length_cons,List.length_nil]at this;simp[szL,Pt.sz];omega
  have:=zRu (row:=nE f) (f0:=f) (λr b en he hb hf=>ih r (b+1) en hf hb he) ((bif [94].isPrefixOf r then r.drop 1 else r).length+1) true (bif [94].isPrefixOf r then r.drop 1 else r) b en (bif [94].isPrefixOf r then [Pt.bol]else []) (by omega) hb he (by omega);cases ho:xL (nE f) ((bif [94].isPrefixOf r then r.drop 1 else r).length+1) true (bif [94].isPrefixOf r then r.drop 1 else r) b en (bif [94].isPrefixOf r then [Pt.bol]else [])with
  |er e k=>rw[ho]at this;exact⟨this.1,by intro t r' b' en' h;simp at h⟩
  |ok ts r2 b2 en2 =>
   rw[ho]at this;obtain⟨⟨d1,d2,d3,d4⟩,d5⟩:=this;have d5:=d5 _ _ _ _ rfl;refine⟨⟨d1.trans hr1,?_,d3,d4⟩,?_⟩
   ·rw[yHc];omega
   ·intro t r' b' en' h;simp only[Res.ok.injEq]at h;omega
end Go.Dec
namespace Go.Dec
def ROK(s:List UInt8)(l:List Nd)(o:Res (Option Pt))(e:Option (Sum (Int × RdT) (Int × Int × RdT))):Prop:=match o with
 |.ok none r b en=>e=some (.inl (-1,s,psn s r,(b:Int),en,l,()))
 |.ok (some t) r b en=>e=some (.inl (t.top l.length,s,psn s r,(b:Int),en,l++t.enc l.length,()))
 |.er c k=>∃ x:RdT,e=some (.inr ((c:Int),((s.length-k:Nat):Int),x))
theorem yFh:((List.range 256).all λi=>decide (Go.Lib.indexByte Et (UInt8.ofNat i)≥0)==Et.contains (UInt8.ofNat i))=true:=by decide +kernel
theorem yVf(d:UInt8):UInt8.ofNat d.toNat=d:=by simp
theorem yLp{n:Nat}(d:UInt8):(ob (strings_IndexByte n ([46,91,92,42,94,36,47],(d.toNat:Int))) λy=>some (decide (y≥0)))=some (Et.contains d):=by
 have:=zRm yFh d.toNat_lt;rw[beq_iff_eq,yVf]at this;unfold strings_IndexByte;simp only[aN,Int.toNat_natCast];rw[show(d.toNat).toUInt8=d from yVf d];rw[<- this];rfl
theorem xAv(d:UInt8):wd (dI d.toNat d.toNat)=wd (zFd d):=Jr λi hi=>by
 simp only[dI,zFd];rw[Bool.eq_iff_iff];simp;omega
theorem yOy(d:UInt8):wd (ofP [d])=wd (zFd d):=Jr λi hi=>by
 simp only[ofP,zFd];rw[Bool.eq_iff_iff];simp;omega
section
variable {n:Nat}
variable {s r:List UInt8}
variable {b:Nat}
variable {en:List Bool}
variable {l:List Nd}
variable {rw':RdT->Option (Sum (Int × RdT) (Int × Int × RdT))}
variable {row:List UInt8->Nat->List Bool->Res (Option Pt)}
theorem yDg{o:Res Pt}{e:Option (Sum (Int × RdT) (Int × Int × RdT))}(h:POK s l o e):POK s l o (ob2 e (λy11 =>
 some (.inl (y11.1,y11.2.1,y11.2.2.1,y11.2.2.2.1,y11.2.2.2.2.1,y11.2.2.2.2.2.1,()))) (λy11 =>
 some (.inr (y11.1,y11.2.1,y11.2.2.1,y11.2.2.2.1,y11.2.2.2.2.1,y11.2.2.2.2.2.1,y11.2.2.2.2.2.2.1,())))):=by
 cases o with
 |er c k=>obtain⟨x,h⟩:=h;rw[h];exact⟨_,rfl⟩
 |ok t r b en=>simp only[POK]at h;rw[h];rfl
theorem zJn{p:Nat->Bool}(hl:l.length<900000):POK s l (.ok (.bytes p) r b en) (ob (dZ n (wd p,s,psn s r,(b:Int),en,l,())) λy=>some (.inl (y.1,y.2.1,y.2.2.1,y.2.2.2.1,y.2.2.2.2.1,y.2.2.2.2.2.1,()))):=by
 rw[yTd (by omega)];simp only[aN,POK,Pt.top,Pt.sz];congr 3;omega
theorem yTh{k:Nat}(h:r <:+ s)(hs:s.length<100000)(hl:l.length+3*r.length<800000)(he:en.length=10)(hb:b<=9)(hrow:b+1<=9->zCw r (row r (b+1) en)/\ROK s l (row r (b+1) en) (rw' (s,psn s r,((b+1:Nat):Int),en,l,()))):POK s l (bif b==9 then .er 41 k
  else match row r (b+1) en with
   |.er e k=>.er e k
   |.ok none _ _ _=>.er 41 k
   |.ok (some t) r3 b3 en3=>bif [92,41].isPrefixOf r3 then .ok (.group t (b+1)) (r3.drop 2) b3 (en3.set (b+1) true)else .er 41 k)
  (vF n rw' (((s.length-k:Nat):Int),s,psn s r,(b:Int),en,l,())):=by
 have hg:∀ {x:RdT},POK s l (.er 41 k) (some (.inr (41,((s.length-k:Nat):Int),x))):=λ{x}=>⟨x,rfl⟩
 unfold vF;simp only;cases h9:b==9
 case true =>
  have:b=9:=by simpa using h9
  rw[bC (by simp[this]),iV];exact hg
 have h9:b≠9:=by simpa using h9
 rw[aO (by simp;omega),bI (by omega) (by omega)];obtain⟨hgood,hok⟩:=hrow (by omega);rw[show(b:Int)+1=((b+1:Nat):Int)from rfl];simp only[cond_false];cases ho:row r (b+1) en with
 |er e k2 =>
  rw[ho]at hok;obtain⟨x,hok⟩:=hok;rw[hok];exact⟨_,rfl⟩
 |ok t r3 b3 en3 =>
  rw[ho]at hok hgood;obtain⟨g1,g2,g3,g4⟩:=hgood;have hs3:r3 <:+ s:=g1.trans h;cases t with
  |none =>
   simp only[ROK]at hok;rw[hok];simp only[Uy];rw[bC (by rfl),iV];exact hg
  |some t =>
   simp only[ROK]at hok;rw[hok];simp only[Uy];have htop:(t.top l.length==(-1))=false:=by
    rw[Bool.eq_false_iff,ne_eq,beq_iff_eq];unfold Pt.top;have:=t.Bl;omega
   rw[aO htop];cases hp:[92,41].isPrefixOf r3
   ·rw[xO hs3 hp];simp only[aN,Bool.not_false,dO,iV,oK,cond_false];exact hg
   ·rw[xM hs3 (by omega) hp];simp only[aN,Bool.not_true,bO,cond_true];rw[aM (dM (by omega) (by omega)),aM (by simp;omega)];simp only at g2;rw[Xx (by rw[List.length_append,Pt.iU];omega)];simp only[aN,POK,Pt.enc,Pt.top,Pt.sz,List.length_append,Pt.iU,List.append_assoc,Int.toNat_natCast];congr 3;omega
theorem yXk{first:Bool}(h:r <:+ s)(hne:r≠[])(hs:s.length<100000)(hn:s.length+500<=n)(hl:l.length+3*r.length<800000)(he:en.length=10)(hb:b<=9)(hrow:∀ r2,r2 <:+ r->r2.length<r.length->b+1<=9->zCw r2 (row r2 (b+1) en)/\ROK s l (row r2 (b+1) en) (rw' (s,psn s r2,((b+1:Nat):Int),en,l,()))):POK s l (Gm row first r b en) (xD n rw' (first,s,psn s r,(b:Int),en,l,())):=by
 have hlen:=Na h;unfold xD Gm;cases r with
 |nil=>exact absurd rfl hne
 |cons c r1 =>
  simp only;simp only[List.length_cons]at hl hlen;have h1:r1 <:+ s:=(List.suffix_cons _ _).trans h;have e46:[46].isPrefixOf (c::r1)=(46==c):=by simp[List.isPrefixOf]
  have e91:[91].isPrefixOf (c::r1)=(91==c):=by simp[List.isPrefixOf]
  have e92:[92].isPrefixOf (c::r1)=(92==c):=by simp[List.isPrefixOf]
  rw[zUe c 46,zUe c 91,zUe c 92];cases h46:(46==c)
  case true =>
   rw[xM h (by omega) (by rw[e46,h46])];simp only[aN,dO,cond_true];have:=zRo (n:=n) (by omega) (λ_=>false);rw[wW]at this;rw[this];simp only[aN];exact zJn (r:=r1) (by omega)
  rw[xO h (by rw[e46,h46])];simp only[aN,bO,cond_false];rw[Aw h,e91];simp only[aN];cases h91:(91==c)
  case true =>
   simp only[dO,cond_true];rw[aM (yOv h),Vi,Xw h,zUf (by omega) (by simp only[List.length_cons];omega) (by simp only[List.length_cons];omega)];simp only[aN];cases hk:zJl (c::r1)with
   |none =>
    simp only[yTc];rw[bC (by rfl),iV];exact⟨_,rfl⟩
   |some x =>
    obtain⟨p,k⟩:=x;have hk2:=yDb hk;simp only[yTc];rw[aO (by rfl),Eu h (by omega) hk2.2];exact zJn (r:=(c::r1).drop k) (by omega)
  simp only[bO,cond_false];rw[Aw h,e92];simp only[aN];have hp1:IntKind.wrap .i64 (psn s (c::r1)+1)=psn s r1:=Eu h (by omega) (k:=1) (by simp);cases h92:(92==c)
  case false =>
   simp only[bO,cond_false];rw[hp1];have e0:IntKind.wrap .i64 (psn s r1-1)=psn s (c::r1):=by
    rw[<- hp1,bI (x:=psn s (c::r1)+1) (by unfold psn;omega) (by unfold psn;omega),bI (by unfold psn;omega) (by unfold psn;omega)];omega
   rw[e0];have hps:psn s (c::r1)=((s.length-(r1.length+1):Nat):Int):=rfl;have xEy:psn s r1=((s.length-r1.length:Nat):Int):=rfl;rw[aM (by rw[hps,xEy];simp;omega),Vi,Vi];have e:(s.take (s.length-r1.length)).drop (s.length-(c::r1).length)=[c]:=by
    rw[List.drop_take,Xw h];simp only[List.length_cons];rw[show s.length-r1.length-(s.length-(r1.length+1))=1 by omega];rfl
   rw[e,zJi _ (by simp;omega) (by simp),yOy];simp only[aN];exact zJn (r:=r1) (by omega)
  simp only[dO,cond_true];refine yDg ?_;unfold xC;simp only;rw[hp1,zUg h1];cases r1 with
  |nil =>
   simp only[List.isEmpty_nil,dO,iV,oK];exact⟨_,rfl⟩
  |cons d r2 =>
   have h2:r2 <:+ s:=(List.suffix_cons _ _).trans h1;simp only[List.length_cons]at hlen hl;simp only[List.isEmpty_cons,bO];have hin:inB (psn s (d::r2)) s.length=true:=dM (by unfold psn;omega) (by unfold psn;simp only[List.length_cons];omega);have hgd:aV 0 s (psn s (d::r2))=d:=by
    have:=yHa (d:=0) h1 (j:=0) (c:=d) rfl;simpa using this
   have hp2:IntKind.wrap .i64 (psn s (d::r2)+1)=psn s r2:=Eu h1 (by omega) (k:=1) (by simp);rw[aM hin,hgd,hp2];have e40:((d.toNat:Int)==40)=(d==40):=by rw[zUe];exact eqI 40
   have xEz:((d.toNat:Int)==110)=(d==110):=by rw[zUe];exact eqI 110
   have xFa:((d.toNat:Int)==123)=(d==123):=by rw[zUe];exact eqI 123
   rw[e40,xEz,xFa];cases h40:(d==40)
   case true =>
    simp only[dO,cond_true];have hG:=yTh (n:=n) (row:=row) (rw':=rw') (k:=(c::d::r2).length) (l:=l) (en:=en) (b:=b) h2 hs (by omega) he hb (λhb9=>hrow r2 ((List.suffix_cons _ _).trans (List.suffix_cons _ _)) (by simp only[List.length_cons];omega) hb9);have hpk:((s.length-(c::d::r2).length:Nat):Int)=psn s (c::d::r2):=rfl;rw[hpk]at hG;exact yDg hG
   simp only[bO,cond_false];have hrest:POK s l (bif d==110 then .ok (.bytes (zFd 10)) r2 b en
    else bif Et.contains d then .ok (.bytes (zFd d)) r2 b en
    else bif d==123&&first then .er 43 (c::d::r2).length
    else .er 40 (c::d::r2).length) (
     br (d==110) (
      ob (xB n [10]) λy15 =>
      ob (dZ n (y15,s,psn s r2,(b:Int),en,l,())) λy16 =>
      some (.inl (y16.1,y16.2.1,y16.2.2.1,y16.2.2.2.1,y16.2.2.2.2.1,y16.2.2.2.2.2.1,()))) (
      ob (strings_IndexByte n ([46,91,92,42,94,36,47],(d.toNat:Int))) λy17 =>
      br (decide (y17≥0)) (
       ob (dW n ((d.toNat:Int),(d.toNat:Int))) λy18 =>
       ob (dZ n (y18,s,psn s r2,(b:Int),en,l,())) λy19 =>
       some (.inl (y19.1,y19.2.1,y19.2.2.1,y19.2.2.2.1,y19.2.2.2.2.1,y19.2.2.2.2.2.1,()))) (
       br (d==123) (
        br first (
         ob2 (aL n (43,psn s (c::d::r2),s,psn s r2,(b:Int),en,l,())) (λy20 =>
          none) (λy20 =>
          some (.inr (y20.1,y20.2.1,y20.2.2.1,y20.2.2.2.1,y20.2.2.2.2.1,y20.2.2.2.2.2.1,y20.2.2.2.2.2.2.1,())))) (
         ob2 (aL n (40,psn s (c::d::r2),s,psn s r2,(b:Int),en,l,())) (λy21 =>
          none) (λy21 =>
          some (.inr (y21.1,y21.2.1,y21.2.2.1,y21.2.2.2.1,y21.2.2.2.2.1,y21.2.2.2.2.2.1,y21.2.2.2.2.2.2.1,()))))) (
        ob2 (aL n (40,psn s (c::d::r2),s,psn s r2,(b:Int),en,l,())) (λy22 =>
         none) (λy22 =>
         some (.inr (y22.1,y22.2.1,y22.2.2.1,y22.2.2.2.1,y22.2.2.2.2.1,y22.2.2.2.2.2.1,y22.2.2.2.2.2.2.1,()))))))):=by
    cases xAw:(d==110)
    case true =>
     simp only[dO,cond_true];rw[zJi _ (by simp;omega) (by simp),yOy];simp only[aN];exact zJn (by omega)
    simp only[bO,cond_false];have hsp:=yLp (n:=n) d;cases hix:strings_IndexByte n ([46,91,92,42,94,36,47],(d.toNat:Int))with
    |none=>rw[hix]at hsp;exact absurd hsp (by simp[ob])
    |some y =>
     rw[hix]at hsp;simp only[aN,aA]at hsp ⊢;rw[hsp];cases Et.contains d
     case true =>
      simp only[dO,cond_true];rw[Mw (by omega) d.toNat_lt d.toNat_lt,xAv];simp only[aN];exact zJn (by omega)
     simp only[bO,cond_false,iV,oK];cases(d==123)<;>cases first<;>exact⟨_,rfl⟩
   by_cases h49:49<=d.toNat
   ·rw[bC (by simp;omega),decide_eq_true h49];by_cases h57:d.toNat<=57
    ·rw[bC (by simp;omega),decide_eq_true h57];simp only[Bool.and_self,cond_true];have hv:IntKind.wrap .i64 (IntKind.wrap .u8 ((d.toNat:Int)-48))=((d.toNat-48:Nat):Int):=by
      rw[IntWalk.u8_in _ (by omega),bI (by omega) (by omega)];omega
     rw[hv,aM (dM (by omega) (by omega)),aM (by simp;omega),Int.toNat_natCast,show Ty.dflt .bool=false from rfl];cases en.getD (d.toNat-48) false
     ·simp only[Bool.not_false,dO,iV,oK,cond_false];exact⟨_,rfl⟩
     ·simp only[Bool.not_true,bO,cond_true];rw[Xx (by omega)];simp only[aN,POK,Pt.enc,Pt.top,Pt.sz];congr 3;omega
    ·rw[aO (by simp;omega),decide_eq_false h57,Bool.and_false];simp only[cond_false];exact hrest
   ·rw[aO (by simp;omega),decide_eq_false h49,Bool.false_and];simp only[cond_false];exact hrest
end
end Go.Dec
namespace Go.Dec
def szA:List Pt->Nat | []=>0 | t :: ts=>t.sz+szA ts
def pU:Nat->List Pt->List Nd | _,[]=>[] | o,t :: ts=>t.enc o++pU (o+t.sz) ts
def pV:Nat->List Pt->List Int | _,[]=>[] | o,t :: ts=>t.top o :: pV (o+t.sz) ts
theorem Vj:∀ (a b:List Pt),szA (a++b)=szA a+szA b
 |[],b=>by simp[szA]
 |t::a,b=>by simp[szA,Vj a b];omega
theorem yDh:∀ ts:List Pt,szA ts+ts.length=szL ts
 |[]=>rfl
 |t::ts=>by have:=yDh ts;simp[szA,szL];omega
theorem Xy:∀ (ts:List Pt) (o:Nat),(pU o ts).length=szA ts
 |[],_=>rfl
 |t::ts,o=>by simp[pU,szA,Pt.iU,Xy ts]
theorem Xz:∀ (ts:List Pt) (o:Nat) (t:Pt),pU o (ts++[t])=pU o ts++t.enc (o+szA ts)
 |[],o,t=>by simp[pU,szA]
 |u::ts,o,t=>by simp[pU,szA,Xz ts,Nat.add_assoc]
theorem zJo:∀ (ts:List Pt) (o:Nat) (t:Pt),pV o (ts++[t])=pV o ts++[t.top (o+szA ts)]
 |[],o,t=>by simp[pV,szA]
 |u::ts,o,t=>by simp[pV,szA,zJo ts,Nat.add_assoc]
theorem Rw:∀ (ts:List Pt) (o:Nat),(pV o ts).length=ts.length
 |[],_=>rfl
 |t::ts,o=>by simp[pV,Rw ts]
theorem yDi(pre:List Pt)(t:Pt)(post:List Pt)(o:Nat)(d:Int):(pV o (pre++t::post)).getD pre.length d=t.top (o+szA pre):=by
 induction pre generalizing o with
 |nil=>simp[pV,szA]
 |cons u pre ih=>simp only[List.cons_append,pV,szA,List.length_cons,List.getD_cons_succ];rw[ih];congr 1;omega
theorem zOl:∀ (pre:List Pt) (t:Pt),Pk (pre++[t])=some (pre.foldr Pt.cat t)
 |[],t=>rfl
 |u::pre,t=>by simp only[List.cons_append,Pk,zOl pre t,List.foldr_cons]
section
variable {n:Nat}
variable {s:List UInt8}
variable {l:List Nd}
variable {rw':RdT->Option (Sum (Int × RdT) (Int × Int × RdT))}
theorem yTi{at':Int}{b:Int}{en:List Bool}{ts:List Pt}(hl:l.length+szL ts<900000):∀ (k m:Nat) (pre suf:List Pt) (u:Pt),pre.length=k->ts=pre++suf->szA pre+u.sz+pre.length<=szL ts->k<m ->
 fix (uJ n) m (u.top (l.length+szA pre),(k:Int)-1,s,at',b,en,l++pU l.length pre++u.enc (l.length+szA pre),pV l.length ts,()) =
  some (.inl ((pre.foldr Pt.cat u).top l.length,s,at',b,en,l++(pre.foldr Pt.cat u).enc l.length,())):=by
 intro k;induction k with
 |zero =>
  intro m pre suf u hk hts hsz hm;have:pre=[]:=List.eq_nil_of_length_eq_zero hk;subst this;rw[lT hm,uJ];simp only;rw[aO (by simp)];simp[pU,szA]
 |succ k ih =>
  intro m pre suf u hk hts hsz hm;obtain⟨pre',t,rfl⟩:∃ pre' t,pre=pre'++[t]:=by
   rcases List.eq_nil_or_concat pre with rfl|⟨p,t,rfl⟩
   ·simp at hk
   ·exact⟨p,t,by simp⟩
  have hk':pre'.length=k:=by simpa using hk
  have yTj:ts=pre'++t::suf:=by rw[hts];simp
  have hat:=yDi pre' t suf l.length 0;rw[<- yTj,hk']at hat;have hlen:(pV l.length ts).length=ts.length:=Rw _ _;have htl:k<ts.length:=by rw[yTj];simp;omega
  rw[lT (by omega),uJ];simp only;rw[show((k+1:Nat):Int)-1=(k:Int)by omega];rw[bC (by simp),hlen,aM (by rw[Hl htl];simp),Int.toNat_natCast,Nat.zero_add,aM (by simp;omega),show Ty.dflt (.int .i64)=(0:Int)from rfl,hat];rw[Vj]at hsz;simp only[szA,List.length_append,List.length_cons,List.length_nil]at hsz;rw[Xx (by simp only[List.length_append,Xy,Vj,Pt.iU,szA];omega)];simp only[aN];rw[bI (by omega) (by omega)];have hc:=ih (m-1) pre' (t::suf) (.cat t u) hk' yTj (by simp only[Pt.sz];omega) (by omega);have e1:(((l++pU l.length (pre'++[t])++u.enc (l.length+szA (pre'++[t]))).length:Nat):Int)=(Pt.cat t u).top (l.length+szA pre'):=by
   simp only[List.length_append,Xy,Vj,Pt.iU,szA,Pt.top,Pt.sz];omega
  have e2:l++pU l.length (pre'++[t])++u.enc (l.length+szA (pre'++[t]))++[(4,[0,0,0,0],t.top (l.length+szA pre'),u.top (l.length+szA (pre'++[t])),0,0,0,())]=l++pU l.length pre'++(Pt.cat t u).enc (l.length+szA pre'):=by
   simp only[Xz,Vj,szA,Pt.enc,List.append_assoc,Nat.add_zero,Nat.add_assoc]
  rw[e1,e2,hc,List.foldr_append];rfl
theorem yDj{r:List UInt8}{b:Nat}{en:List Bool}{ts:List Pt}(hn:szL ts+10<=n)(hl:l.length+szL ts<900000):ROK s l (.ok (Pk ts) r b en) (uK n (s,psn s r,(b:Int),en,l++pU l.length ts,pV l.length ts,())):=by
 unfold uK;simp only;rw[Rw];have hsl:=yDh ts;rcases List.eq_nil_or_concat ts with rfl|⟨pre,t,h⟩
 ·rw[bC (by rfl)];simp[Pk,ROK,pU]
 ·have hts:ts=pre++[t]:=by rw[h];simp
  have hlen:ts.length=pre.length+1:=by rw[hts];simp
  have hat:=yDi pre t [] l.length 0;rw[show pre++t::[]=ts by rw[hts]]at hat;rw[aO (by simp;exact λh=>by rw[h]at hlen;simp at hlen),hlen];rw[bI (x:=((pre.length+1:Nat):Int)-1) (by omega) (by omega),bI (by omega) (by omega)];rw[show((pre.length+1:Nat):Int)-1=(pre.length:Int)by omega,show((pre.length+1:Nat):Int)-2=(pre.length:Int)-1 by omega];rw[aM (by rw[Hl (by omega)];simp),Int.toNat_natCast,Nat.zero_add,aM (by simp),show Ty.dflt (.int .i64)=(0:Int)from rfl,hat];have hc:=yTi (n:=n) (s:=s) (l:=l) (at':=psn s r) (b:=(b:Int)) (en:=en) (ts:=ts) hl pre.length n pre [t] t rfl hts (by rw[hts,Vj]at hsl;simp only[szA]at hsl;rw[hts];simp only[List.length_append,List.length_cons,List.length_nil]at hsl;omega) (by omega);have e:l++pU l.length ts=l++pU l.length pre++t.enc (l.length+szA pre):=by rw[hts,Xz,List.append_assoc]
  rw[e,hc];have xFb:Pk ts=some (pre.foldr Pt.cat t):=by rw[hts];exact zOl pre t
  rw[xFb];rfl
theorem zVx{f0 R:Nat}(hs:s.length<100000)(hn:3*s.length+500<=n)(hrow:∀ r2 b2 en2 l2,r2 <:+ s->r2.length<R->b2+1<=9->11<=f0+(b2+1)->en2.length=10->l2.length+3*r2.length<800000->ROK s l2 (nE f0 r2 (b2+1) en2) (rw' (s,psn s r2,((b2+1:Nat):Int),en2,l2,()))):∀ (f m:Nat) (first:Bool) (r:List UInt8) (b:Nat) (en:List Bool) (acc:List Pt),r <:+ s->r.length<=R->r.length<f->f<=m->b<=9->en.length=10->10<=f0+b->l.length+szL acc+3*r.length<800000->szL acc+3*r.length<=3*s.length ->
  ROK s l (match xL (nE f0) f first r b en acc with
   |.er e k=>.er e k
   |.ok ts r2 b2 en2=>.ok (Pk ts) r2 b2 en2) (fix (oZ n rw') m (first,s,psn s r,(b:Int),en,l++pU l.length acc,pV l.length acc,())):=by
 intro f;induction f with
 |zero=>intro m first r b en acc _ _ h;omega
 |succ f ih =>
  intro m first r b en acc h hR hf hm hb he hf0 hl hsz
  have hle:=Na h;have hal:=yDh acc;rw[lT (by omega),oZ];simp only;rw[yOw h];unfold xL;simp only[aN];cases hc:zR r
  case true =>
   simp only[Bool.not_true,bO,cond_true,zJg];exact yDj (by omega) (by omega)
  simp only[Bool.not_false,dO,cond_false];rw[Aw h];simp only[aN];have hne:r≠[]:=by intro e;subst e;simp[zR]at hc
  have hgo:ROK s l (match (match Gm (nE f0) first r b en with
   |.er e k=>(.er e k:Res (List Pt))
   |.ok t r1 b1 en1=>match Mx t r1 b1 en1 with
    |.er e k=>.er e k
    |.ok t2 r2 b2 en2=>xL (nE f0) f false r2 b2 en2 (acc++[t2]))with
    |.er e k=>.er e k
    |.ok ts r2 b2 en2=>.ok (Pk ts) r2 b2 en2) (jN n rw' (fix (oZ n rw') (m-1)) (first,false,s,psn s r,(b:Int),en,l++pU l.length acc,pV l.length acc,())):=by
   unfold jN;simp only[bO];have hll:(l++pU l.length acc).length=l.length+szA acc:=by rw[List.length_append,Xy]
   have ha:=yXk (n:=n) (rw':=rw') (row:=nE f0) (l:=l++pU l.length acc) (first:=first) h hne hs (by omega) (by rw[hll];omega) he hb
    (λr2 hr2 hlt hb1=>⟨(Pn f0 r2 (b+1) en (by omega) hb1 he).1,hrow r2 b en _ (hr2.trans h) (by omega) hb1 (by omega) he (by rw[hll];omega)⟩)
   have hg:=zVv (row:=nE f0) (first:=first) (r:=r) hb he (λr hb1=>(Pn f0 r (b+1) en (by omega) hb1 he).1);have hbb:=(zRu (row:=nE f0) (f0:=f0) (λr b en he hb hf=>Pn f0 r (b+1) en hf hb he) (f+1) first r b en acc hf hb he hf0);cases ho:Gm (nE f0) first r b en with
   |er e k =>
    rw[ho]at ha;obtain⟨x,ha⟩:=ha;rw[ha];exact⟨_,rfl⟩
   |ok t r1 b1 en1 =>
    rw[ho]at ha hg;obtain⟨g1,g2,g3,g4⟩:=hg;simp only[POK]at ha;rw[ha];simp only[Uy];have h1:r1 <:+ s:=g1.trans h;have htm:=yTf (n:=n) (l:=l++pU l.length acc) (t:=t) (b:=b1) (en:=en1) h1 (by omega) (by omega) (by rw[hll];omega);have htg:=zRt t r1 b1 en1;have htp:=t.Bl;rw[hll]at htm ⊢;cases ho2:Mx t r1 b1 en1 with
    |er e k =>
     rw[ho2]at htm;obtain⟨x,htm⟩:=htm;rw[htm];exact⟨_,rfl⟩
    |ok t2 r2 b2 en2 =>
     rw[ho2]at htm htg;obtain⟨c1,rfl,rfl,c4⟩:=htg;simp only[POK]at htm;rw[htm];simp only[Uy];have hc1:=c1.length_le;have hg1:=g1.length_le;rw[aM (by rw[Rw];simp[room];omega),hll];have e1:l++pU l.length acc++t2.enc (l.length+szA acc)=l++pU l.length (acc++[t2]):=by rw[Xz,List.append_assoc]
     have e2:pV l.length acc++[t2.top (l.length+szA acc)]=pV l.length (acc++[t2]):=(zJo _ _ _).symm;rw[e1,e2];have xFt:b<=b2:=by
      cases hi:Gm (nE f0) first r b en with
      |er e k=>rw[hi]at ho;exact absurd ho (by simp)
      |ok t' r' b' en' =>
       rw[hi]at ho;simp only[Res.ok.injEq]at ho;have:=zVw (row:=nE f0) (f0:=f0) (λr b en he hb hf=>(Pn f0 r (b+1) en hf hb he).2) he hb hf0 hi;omega
     exact ih (m-1) false r2 b2 en2 (acc++[t2]) (c1.trans h1) (by omega) (by omega) (by omega) g3 g4 (by omega) (by rw[Pm];simp only[szL];omega) (by rw[Pm];simp only[szL];omega)
  have hend:∀ r1,r=36::r1->ROK s l (.ok (Pk (acc++[.eol])) r1 b en) (jN n rw' (fix (oZ n rw') (m-1)) (first,true,s,psn s r,(b:Int),en,l++pU l.length acc,pV l.length acc,())):=by
   intro r1 hr;unfold jN;simp only[dO];have hrl:r.length=r1.length+1:=by rw[hr];rfl
   have hp:IntKind.wrap .i64 (psn s r+1)=psn s r1:=by
    have:=Eu h (by omega) (k:=1) (by omega);rw[hr]at this ⊢;exact this
   have hll:(l++pU l.length acc).length=l.length+szA acc:=by rw[List.length_append,Xy]
   rw[hp,Xx (by rw[hll];omega)];simp only[aN];rw[aM (by rw[Rw];simp[room];omega),zJg,hll];have e1:l++pU l.length acc++[(3,[0,0,0,0],0,0,0,0,0,())]=l++pU l.length (acc++[.eol]):=by rw[Xz,List.append_assoc];rfl
   have e2:pV l.length acc++[((l.length+szA acc:Nat):Int)]=pV l.length (acc++[.eol]):=by
    rw[zJo];congr 2;simp only[Pt.top,Pt.sz];omega
   rw[e1,e2];exact yDj (by rw[Pm];simp only[szL,Pt.sz];omega) (by rw[Pm];simp only[szL,Pt.sz];omega)
  cases hd:[36].isPrefixOf r
  ·simp only[bO,Bool.false_and,cond_false,zJg];exact hgo
  ·obtain⟨r1,hr⟩:=xEx hd;simp only[dO,Bool.true_and,zJg];have hrl:r.length=r1.length+1:=by rw[hr];rfl
   have hp:IntKind.wrap .i64 (psn s r+1)=psn s r1:=by
    have:=Eu h (by omega) (k:=1) (by omega);rw[hr]at this ⊢;exact this
   have h1:r1 <:+ s:=by rw[hr]at h;exact(List.suffix_cons _ _).trans h
   rw[hp,zUg h1,show r.drop 1=r1 by rw[hr];rfl];unfold zR;cases hem:r1.isEmpty
   ·simp only[bO,Bool.false_or];rw[Aw h,show [36,92,41].isPrefixOf r=[92,41].isPrefixOf r1 by rw[hr];simp[List.isPrefixOf]];simp only[aN];cases [92,41].isPrefixOf r1
    ·exact hgo
    ·exact hend r1 hr
   ·simp only[dO,Bool.true_or,cond_true];exact hend r1 hr
theorem xAx:∀ (f n:Nat) (r:List UInt8) (b:Nat) (en:List Bool) (l:List Nd),s.length<100000->3*s.length+500+f<=n->r <:+ s->11<=f+b->b<=9->en.length=10->l.length+3*r.length<800000->ROK s l (nE f r b en) (lK n (s,psn s r,(b:Int),en,l,())):=by
 intro f;induction f with
 |zero=>intro n r b en l _ _ _ h hb;omega
 |succ f ih =>
  intro n r b en l hs hn h hf hb he hl;obtain⟨n,rfl⟩:∃ k,n=k+1:=⟨n-1,by omega⟩;have hle:=Na h;have xFc:lK (n+1) (s,psn s r,(b:Int),en,l,())=vW n (lK n) (s,psn s r,(b:Int),en,l,()):=rfl;rw[xFc];unfold vW nE;simp only;cases h94:[94].isPrefixOf r
  ·rw[xO h h94];simp only[aN,bO,cond_false,zJg,uL];have:=zVx (n:=n) (s:=s) (l:=l) (rw':=lK n) (f0:=f) (R:=r.length) hs (by omega)
    (λr2 b2 en2 l2 h2 _ hb2 hf2 he2 hl2=>ih n r2 (b2+1) en2 l2 hs (by omega) h2 hf2 hb2 he2 hl2) (r.length+1) n true r b en [] h (aP _) (by omega) (by omega) hb he (by omega) (by simp only[szL];omega) (by simp only[szL];omega)
   simp only[pU,pV,List.append_nil]at this;exact this
  ·rw[xM h (by omega) h94];have hp:=lU h94;simp only[List.length_cons,List.length_nil]at hp;simp only[aN,dO,cond_true];rw[Xx (by omega)];simp only[aN];rw[aM (by simp[room]),zJg,uL];simp only;have hd:=List.length_drop (i:=1) (l:=r);have:=zVx (n:=n) (s:=s) (l:=l) (rw':=lK n) (f0:=f) (R:=r.length) hs (by omega)
    (λr2 b2 en2 l2 h2 _ hb2 hf2 he2 hl2=>ih n r2 (b2+1) en2 l2 hs (by omega) h2 hf2 hb2 he2 hl2) ((r.drop 1).length+1) n true (r.drop 1) b en [.bol] (Iq h 1) (by omega) (by omega) (by omega) hb he (by omega) (by simp only[szL,Pt.sz];omega) (by simp only[szL,Pt.sz];omega)
   have e2:pV l.length [.bol]=[((l.length:Nat):Int)]:=by simp only[pV,Pt.top,Pt.sz];congr 1;omega
   simp only[pU,Pt.enc,List.append_nil]at this;rw[e2]at this;exact this
end
theorem yOz{row:List UInt8->Nat->List Bool->Res (Option Pt)}:∀ (f:Nat) (first:Bool) (r:List UInt8) (b:Nat) (en:List Bool) (acc ts:List Pt) (r':List UInt8) (b':Nat) (en':List Bool),xL row f first r b en acc=.ok ts r' b' en'->(ts=acc/\r'=r)\/acc.length<ts.length:=by
 intro f;induction f with
 |zero=>intro first r b en acc ts r' b' en' h;simp[xL]at h
 |succ f ih =>
  intro first r b en acc ts r' b' en' h
  unfold xL at h;cases hc:zR r<;>rw[hc]at h<;>simp only[cond_true,cond_false,Res.ok.injEq]at h
  case true=>exact Or.inl ⟨h.1.symm,h.2.1.symm⟩
  cases hd:[36].isPrefixOf r&&zR (r.drop 1)<;>rw[hd]at h<;>simp only[cond_true,cond_false,Res.ok.injEq]at h
  case true=>exact Or.inr (by rw[<- h.1];simp)
  cases ho:Gm row first r b en with
  |er e k=>rw[ho]at h;simp at h
  |ok t r1 b1 en1 =>
   rw[ho]at h;simp only at h;cases ho2:Mx t r1 b1 en1 with
   |er e k=>rw[ho2]at h;simp at h
   |ok t2 r2 b2 en2 =>
    rw[ho2]at h;simp only at h;rcases ih _ _ _ _ _ _ _ _ _ h with ⟨h1,_⟩|h1
    ·exact Or.inr (by rw[h1];simp)
    ·exact Or.inr (by simp at h1;omega)
theorem zXr{f:Nat}{r r':List UInt8}{b b':Nat}{en en':List Bool}(h:nE f r b en=.ok none r' b' en'):r'=r:=by
 cases f with
 |zero=>simp[nE]at h
 |succ f =>
  unfold nE at h;simp only at h;cases ho:xL (nE f) ((bif [94].isPrefixOf r then r.drop 1 else r).length+1) true (bif [94].isPrefixOf r then r.drop 1 else r) b en (bif [94].isPrefixOf r then [Pt.bol]else [])with
  |er e k=>rw[ho]at h;simp at h
  |ok ts r2 b2 en2 =>
   rw[ho]at h;simp only[Res.ok.injEq]at h;have hts:ts=[]:=by
    rcases List.eq_nil_or_concat ts with hh|⟨p,t,hh⟩
    ·exact hh
    ·rw[hh,List.concat_eq_append,zOl]at h;simp at h
   rcases yOz _ _ _ _ _ _ _ _ _ _ ho with ⟨h1,h2⟩|h1
   ·rw[hts]at h1;cases h94:[94].isPrefixOf r
    ·rw[h94]at h2;rw[<- h.2.1,h2];rfl
    ·rw[h94]at h1;simp at h1
   ·rw[hts]at h1;simp at h1
def yDk:Sum Pt (Nat×Nat)->List Nd×Int×Int | .inl t=>(t.enc 0,0,0) | .inr (e,k)=>([],(k:Int),(e:Int))
theorem yDl{n:Nat}{s:List UInt8}(hs:s.length<100000)(hn:3*s.length+600<=n):Ke n s=some (yDk (Xv s)):=by
 unfold Ke;simp only;cases s with
 |nil=>rfl
 |cons c s0 =>
  generalize hsv:c::s0=s at *;have hne:s≠[]:=by rw[<- hsv];simp
  rw[aO (by simpa using hne)];have hps:Xv s=match nE 11 s 0 Xu with
   |.er e k=>.inr (e,s.length-k)
   |.ok t r _ _ =>
    match r with
    |[]=>match t with
     |none=>.inr (41,s.length)
     |some t=>bif decide (t.sz>120)then .inr (2,0)else .inl t
    |_=>.inr (41,s.length-r.length):=by rw[<- hsv];rfl
  rw[hps];have hrow:=xAx (s:=s) 11 n s 0 Xu [] hs (by omega) (List.suffix_refl _) (by omega) (by omega) rfl (by simp;omega);have hgood:=(Pn 11 s 0 Xu (by omega) (by omega) rfl).1;have hp0:psn s s=0:=by unfold psn;omega
  rw[hp0]at hrow;unfold jX Ie;simp only;have xCy:([false,false,false,false,false,false,false,false,false,false]:List Bool)=Xu:=rfl;rw[xCy];cases ho:nE 11 s 0 Xu with
  |er e k =>
   rw[ho]at hrow hgood;obtain⟨x,hrow⟩:=hrow;obtain⟨e1,e2⟩:=hgood;rw[show(((0:Nat):Int))=0 from rfl]at hrow;rw[hrow];simp only[oK,aN];rw[bC (by simp;omega)];rfl
  |ok t r b2 en2 =>
   rw[ho]at hrow hgood;obtain⟨g1,g2,g3,g4⟩:=hgood;have hgl:=g1.length_le;have hlt:∀ c r',r=c::r'->psn s r<(s.length:Int):=by
    intro c r' hr;rw[hr]at hgl ⊢;unfold psn;simp only[List.length_cons]at hgl ⊢;omega
   have hrow':∃ top row,lK n (s,0,0,Xu,[],())=some (.inl (top,s,psn s r,(b2:Int),en2,row,()))/\(match t with|none=>True|some t=>row=t.enc 0):=by
    cases t with
    |none=>exact⟨_,_,hrow,trivial⟩
    |some t=>exact⟨_,_,hrow,by simp⟩
   obtain⟨top,row,hr1,hr2⟩:=hrow';rw[hr1];simp only[Uy];cases hr:r with
   |cons c2 r2 =>
    have:=hlt c2 r2 hr;rw[hr]at this;rw[bC (decide_eq_true this),iV];simp only[oK,aN];rw[bC (by rfl)];rfl
   |nil =>
    have he:psn s []=(s.length:Int):=by unfold psn;simp
    rw[aO (by rw[he];simp)];cases t with
    |none =>
     exfalso;have:=zXr ho;rw[hr]at this;exact absurd this hne.symm
    |some t =>
     simp only at hr2 g2 ⊢;rw[hr2,Pt.iU];by_cases yDm:t.sz>120
     ·rw[bC (by simp;omega),decide_eq_true yDm,iV];simp only[oK,aN,cond_true];rw[bC (by rfl)];rfl
     ·rw[aO (by simp;omega),decide_eq_false yDm];simp only[Uy,aN,cond_false];rw[aO (by rfl)];rfl
end Go.Dec
namespace Go.Dec
def Pt.kind:Pt->Int | .empty=>0 | .bytes _=>1 | .bol=>2 | .eol=>3 | .cat _ _=>4 | .alt _ _=>5 | .times _ _ _=>6 | .group _ _=>7 | .ref _=>8
inductive NV where
 |empty|bol|eol
 |bytes (p:Nat->Bool)
 |cat (a b:Int)|alt (a b:Int)
 |times (a lo hi:Int)
 |group (a:Int) (m:Nat)
 |ref (m:Nat)
def NV.node:NV->Nd | .empty=>(0,[0,0,0,0],0,0,0,0,0,()) | .bytes p=>(1,wd p,0,0,0,0,0,()) | .bol=>(2,[0,0,0,0],0,0,0,0,0,()) | .eol=>(3,[0,0,0,0],0,0,0,0,0,()) | .cat a b=>(4,[0,0,0,0],a,b,0,0,0,()) | .alt a b=>(5,[0,0,0,0],a,b,0,0,0,()) | .times a lo hi=>(6,[0,0,0,0],a,0,lo,hi,0,()) | .group a m=>(7,[0,0,0,0],a,0,0,0,(m:Int),()) | .ref m=>(8,[0,0,0,0],0,0,0,0,(m:Int),())
def zCx (lo hi:Int):Bool:=decide (0<=lo)&&decide (lo<=255)&&(decide (hi = -1)||(decide (lo<=hi)&&decide (1<=hi)&&decide (hi<=255)))
def NV.ok:NV->Bool | .bytes p=>!Er p | .times _ lo hi=>zCx lo hi | .group _ m=>decide (1<=m)&&decide (m<=9) | .ref m=>decide (1<=m)&&decide (m<=9) | _=>true
def zJp (nd:Nd):Prop := ∃ p,nd.2.1 = wd p
theorem xFd{x y:Nd}(h:x=y):Ty.beq bA x y=true:=(@beq_iff bA rfl x y).2 h
theorem xFe{x y:Nd}(h:¬ x=y):Ty.beq bA x y=false:=beq_false (t:=bA) rfl h
def yVg (nd:Nd) (e:Option Bool):Prop:=(e = some true ∧ ∃ v:NV,nd = v.node ∧ v.ok = true) ∨ (e = some false ∧ ∀ v:NV,nd = v.node->v.ok = false)
theorem zVy(v:NV):0<=v.node.1/\v.node.1<=8:=by cases v<;>simp[NV.node]
section
variable {n:Nat}
variable {w:List Int}
variable {a b lo hi m:Int}
variable {u:Unit}
theorem plain0:dJ n (0,w,a,b,lo,hi,m,u)=some (0,[0,0,0,0],0,0,0,0,0,()):=by simp[dJ]
theorem xAy:dJ n (1,w,a,b,lo,hi,m,u)=some (1,w,0,0,0,0,0,()):=by simp[dJ]
theorem xAz:dJ n (2,w,a,b,lo,hi,m,u)=some (2,[0,0,0,0],0,0,0,0,0,()):=by simp[dJ]
theorem xBa:dJ n (3,w,a,b,lo,hi,m,u)=some (3,[0,0,0,0],0,0,0,0,0,()):=by simp[dJ]
theorem xBb:dJ n (4,w,a,b,lo,hi,m,u)=some (4,[0,0,0,0],a,b,0,0,0,()):=by simp[dJ]
theorem xBc:dJ n (5,w,a,b,lo,hi,m,u)=some (5,[0,0,0,0],a,b,0,0,0,()):=by simp[dJ]
theorem xBd:dJ n (6,w,a,b,lo,hi,m,u)=some (6,[0,0,0,0],a,0,lo,hi,0,()):=by simp[dJ]
theorem xBe:dJ n (7,w,a,b,lo,hi,m,u)=some (7,[0,0,0,0],a,0,0,0,m,u):=by simp[dJ]
theorem plain8:dJ n (8,w,a,b,lo,hi,m,u)=some (8,[0,0,0,0],0,0,0,0,m,u):=by simp[dJ]
end
theorem yDn{n:Nat}{nd:Nd}(hw:zJp nd):yVg nd (yA n nd):=by
 obtain⟨k,w,a,b,lo,hi,m,u⟩:=nd;obtain⟨p,hp⟩:=hw;simp only at hp;subst hp;unfold yA;simp only;by_cases h0:k<0
 ·rw[bC (by simp;omega)];exact Or.inr ⟨rfl,λv hv=>by have:=zVy v;rw[<- hv]at this;omega⟩
 rw[aO (by simp;omega)];by_cases h8:k>8
 ·rw[bC (by simp;omega)];exact Or.inr ⟨rfl,λv hv=>by have:=zVy v;rw[<- hv]at this;omega⟩
 rw[aO (by simp;omega)];have hcase:k=0\/k=1\/k=2\/k=3\/k=4\/k=5\/k=6\/k=7\/k=8:=by omega
 have hbad:∀ {nd':Nd}{X:Option Bool},(∀ v:NV,(k,wd p,a,b,lo,hi,m,u)=v.node->(k,wd p,a,b,lo,hi,m,u)=nd')->¬ (k,wd p,a,b,lo,hi,m,u)=nd'->yVg (k,wd p,a,b,lo,hi,m,u) (br (!(Ty.beq bA (k,wd p,a,b,lo,hi,m,u) nd')) (some false) X):=by
  intro nd' X h1 h2;rw[xFe h2];exact Or.inr ⟨rfl,λv hv=>absurd (h1 v hv) h2⟩
 have hgood:∀ {nd':Nd}{X:Option Bool},(k,wd p,a,b,lo,hi,m,u)=nd'->(br (!(Ty.beq bA (k,wd p,a,b,lo,hi,m,u) nd')) (some false) X)=X:=by
  intro nd' X h;rw[xFd h];rfl
 have hng:∀ {m:Int}(v:NV),1<=m->∃ m':Nat,m=(m':Int):=λ{m} _ h=>⟨m.toNat,by omega⟩
 rcases hcase with rfl|rfl|rfl|rfl|rfl|rfl|rfl|rfl|rfl
 ·rw[plain0,aN];by_cases h:((0:Int),wd p,a,b,lo,hi,m,u)=((0,[0,0,0,0],0,0,0,0,0,()):Nd)
  ·rw[hgood h];exact Or.inl ⟨rfl,.empty,h,rfl⟩
  ·exact hbad (λv hv=>by rw[hv];cases v<;>simp[NV.node]at hv ⊢) h
 ·rw[xAy,aN];by_cases h:((1:Int),wd p,a,b,lo,hi,m,u)=((1,wd p,0,0,0,0,0,()):Nd)
  ·rw[hgood h];rw[bC (by rfl)];rw[Es];cases he:Er p
   ·exact Or.inl ⟨rfl,.bytes p,h,by simp[NV.ok,he]⟩
   ·refine Or.inr ⟨rfl,λv hv=>?_⟩;have e1:=congrArg (λx:Nd=>x.2.1) hv;have e0:=congrArg (λx:Nd=>x.1) hv;cases v<;>simp[NV.node]at e0 e1
    simp only[NV.ok];rw[<- Es,<- e1,Es,he];rfl
  ·exact hbad (λv hv=>by rw[hv];cases v<;>simp[NV.node]at hv ⊢;exact hv.1.symm) h
 ·rw[xAz,aN];by_cases h:((2:Int),wd p,a,b,lo,hi,m,u)=((2,[0,0,0,0],0,0,0,0,0,()):Nd)
  ·rw[hgood h];exact Or.inl ⟨rfl,.bol,h,rfl⟩
  ·exact hbad (λv hv=>by rw[hv];cases v<;>simp[NV.node]at hv ⊢) h
 ·rw[xBa,aN];by_cases h:((3:Int),wd p,a,b,lo,hi,m,u)=((3,[0,0,0,0],0,0,0,0,0,()):Nd)
  ·rw[hgood h];exact Or.inl ⟨rfl,.eol,h,rfl⟩
  ·exact hbad (λv hv=>by rw[hv];cases v<;>simp[NV.node]at hv ⊢) h
 ·rw[xBb,aN];by_cases h:((4:Int),wd p,a,b,lo,hi,m,u)=((4,[0,0,0,0],a,b,0,0,0,()):Nd)
  ·rw[hgood h];exact Or.inl ⟨rfl,.cat a b,h,rfl⟩
  ·exact hbad (λv hv=>by rw[hv];cases v<;>simp[NV.node]at hv ⊢;exact⟨hv.2.1.symm,hv.2.2.1.symm⟩) h
 ·rw[xBc,aN];by_cases h:((5:Int),wd p,a,b,lo,hi,m,u)=((5,[0,0,0,0],a,b,0,0,0,()):Nd)
  ·rw[hgood h];exact Or.inl ⟨rfl,.alt a b,h,rfl⟩
  ·exact hbad (λv hv=>by rw[hv];cases v<;>simp[NV.node]at hv ⊢;exact⟨hv.2.1.symm,hv.2.2.1.symm⟩) h
 ·rw[xBd,aN];by_cases h:((6:Int),wd p,a,b,lo,hi,m,u)=((6,[0,0,0,0],a,0,lo,hi,0,()):Nd)
  ·rw[hgood h];rw[aO (by rfl),bC (by rfl)];have e:(br (decide (lo≥0)) (br (decide (lo<=255)) (br (hi==-1) (some true) (br (decide (hi≥if 1>lo then 1 else lo)) (some (decide (hi<=255))) (some false))) (some false)) (some false))=some (zCx lo hi):=by
    unfold zCx;by_cases g1:0<=lo
    ·rw[bC (by simp;omega),decide_eq_true g1];by_cases g2:lo<=255
     ·rw[bC (by simp;omega),decide_eq_true g2];by_cases g3:hi=-1
      ·subst g3;rfl
      ·rw[aO (by simp;omega),decide_eq_false g3];by_cases g4:lo<=hi
       ·by_cases g5:1<=hi
        ·rw[bC (by simp;split<;>omega),decide_eq_true g4,decide_eq_true g5];rfl
        ·rw[aO (by simp;split<;>omega),decide_eq_false g5,decide_eq_true g4];rfl
       ·rw[aO (by simp;split<;>omega),decide_eq_false g4];rfl
     ·rw[aO (by simp;omega),decide_eq_false g2,Bool.and_false,Bool.false_and]
    ·rw[aO (by simp;omega),decide_eq_false g1];rfl
   rw[e];cases ht:zCx lo hi
   ·refine Or.inr ⟨rfl,λv hv=>?_⟩;have e1:=congrArg (λx:Nd=>x.2.2.2.2.1) hv;have e2:=congrArg (λx:Nd=>x.2.2.2.2.2.1) hv;have e0:=congrArg (λx:Nd=>x.1) hv;cases v<;>simp[NV.node]at e0 e1 e2
    simp only[NV.ok];rw[<- e1,<- e2];exact ht
   ·exact Or.inl ⟨rfl,.times a lo hi,h,ht⟩
  ·exact hbad (λv hv=>by rw[hv];cases v<;>simp[NV.node]at hv ⊢;exact⟨hv.2.1.symm,hv.2.2.2.1.symm,hv.2.2.2.2.1.symm⟩) h
 ·rw[xBe,aN];by_cases h:((7:Int),wd p,a,b,lo,hi,m,u)=((7,[0,0,0,0],a,0,0,0,m,u):Nd)
  ·rw[hgood h];rw[aO (by rfl),aO (by rfl),bC (by rfl),bC (by rfl)];by_cases g1:1<=m
   ·rw[bC (by simp;omega)];by_cases g2:m<=9
    ·obtain⟨m',rfl⟩:∃ m':Nat,m=(m':Int):=⟨m.toNat,by omega⟩;rw[decide_eq_true g2];exact Or.inl ⟨rfl,.group a m',h,by simp[NV.ok];omega⟩
    ·rw[decide_eq_false g2];refine Or.inr ⟨rfl,λv hv=>?_⟩;have e1:=congrArg (λx:Nd=>x.2.2.2.2.2.2.1) hv;have e0:=congrArg (λx:Nd=>x.1) hv;cases v<;>simp[NV.node]at e0 e1
     simp[NV.ok];omega
   ·rw[aO (by simp;omega)];refine Or.inr ⟨rfl,λv hv=>?_⟩;have e1:=congrArg (λx:Nd=>x.2.2.2.2.2.2.1) hv;have e0:=congrArg (λx:Nd=>x.1) hv;cases v<;>simp[NV.node]at e0 e1
    simp[NV.ok];omega
  ·exact hbad (λv hv=>by rw[hv];cases v<;>simp[NV.node]at hv ⊢;exact⟨hv.2.1.symm,hv.2.2.2.2.2.symm⟩) h
 ·rw[plain8,aN];by_cases h:((8:Int),wd p,a,b,lo,hi,m,u)=((8,[0,0,0,0],0,0,0,0,m,u):Nd)
  ·rw[hgood h];rw[aO (by rfl),aO (by rfl),aO (by rfl),bC (by rfl)];by_cases g1:1<=m
   ·rw[bC (by simp;omega)];by_cases g2:m<=9
    ·obtain⟨m',rfl⟩:∃ m':Nat,m=(m':Int):=⟨m.toNat,by omega⟩;rw[decide_eq_true g2];exact Or.inl ⟨rfl,.ref m',h,by simp[NV.ok];omega⟩
    ·rw[decide_eq_false g2];refine Or.inr ⟨rfl,λv hv=>?_⟩;have e1:=congrArg (λx:Nd=>x.2.2.2.2.2.2.1) hv;have e0:=congrArg (λx:Nd=>x.1) hv;cases v<;>simp[NV.node]at e0 e1
     simp[NV.ok];omega
   ·rw[aO (by simp;omega)];refine Or.inr ⟨rfl,λv hv=>?_⟩;have e1:=congrArg (λx:Nd=>x.2.2.2.2.2.2.1) hv;have e0:=congrArg (λx:Nd=>x.1) hv;cases v<;>simp[NV.node]at e0 e1
    simp[NV.ok];omega
  ·exact hbad (λv hv=>by rw[hv];cases v<;>simp[NV.node]at hv ⊢;exact hv.2.2.2.2.2.symm) h
end Go.Dec
namespace Go.Dec
def Pt.nv (o:Nat):Pt->NV | .empty => .empty | .bytes p => .bytes p | .bol => .bol | .eol => .eol | .cat a b => .cat (a.top o) (b.top (o+a.sz)) | .alt a b => .alt (a.top o) (b.top (o+a.sz)) | .times a lo hi => .times (a.top o) lo hi | .group a m => .group (a.top o) m | .ref m => .ref m
def Pt.yTk (o:Nat):Pt->List Nd | .cat a b=>a.enc o++b.enc (o+a.sz) | .alt a b=>a.enc o++b.enc (o+a.sz) | .times a _ _=>a.enc o | .group a _=>a.enc o | _=>[]
theorem Pt.zVz(o:Nat)(t:Pt):t.enc o=t.yTk o++[(t.nv o).node]:=by
 cases t<;>rfl
theorem Pt.yTl(o:Nat)(t:Pt):(t.yTk o).length+1=t.sz:=by
 have:=t.iU o;rw[t.zVz]at this;simpa using this
theorem Pt.zKu(o:Nat)(t:Pt):(t.nv o).node.1=t.kind:=by cases t<;>rfl
def At (l:List Nd) (o:Nat) (t:Pt):Prop := ∃ pre post,l = pre++t.enc o++post ∧ pre.length = o
theorem At.node{l:List Nd}{o:Nat}{t:Pt}(h:At l o t):l[o+t.sz-1]?=some (t.nv o).node:=by
 obtain⟨pre,post,rfl,hp⟩:=h;have hb:=t.yTl o;rw[t.zVz,<- List.append_assoc,List.append_assoc,List.getElem?_append_right (by rw[List.length_append];omega)];rw[List.length_append,show o+t.sz-1-(pre.length+(t.yTk o).length)=0 by omega];rfl
theorem At.len{l:List Nd}{o:Nat}{t:Pt}(h:At l o t):o+t.sz<=l.length:=by
 obtain⟨pre,post,rfl,hp⟩:=h;simp only[List.length_append,Pt.iU];omega
theorem At.top{l:List Nd}{o:Nat}{t:Pt}(h:At l o t):inB (t.top o) l.length=true/\∀ d,aV d l (t.top o)=(t.nv o).node:=by
 have h1:=h.node;have h2:=h.len;have h3:=t.Bl;have e:t.top o=((o+t.sz-1:Nat):Int):=by unfold Pt.top;omega
 rw[e];refine⟨Hl (by omega),λd=>?_⟩;rw[Kk (by omega)];rw[List.getElem?_eq_getElem (by omega)]at h1;exact Option.some.inj h1
theorem At.xBf{l:List Nd}{o:Nat}{a b:Pt}(h:At l o (.cat a b)):At l o a/\At l (o+a.sz) b:=by
 obtain⟨pre,post,rfl,hp⟩:=h;exact⟨⟨pre,b.enc (o+a.sz)++([(Pt.nv o (.cat a b)).node]++post),by simp[Pt.enc,Pt.nv,NV.node],hp⟩,⟨pre++a.enc o,[(Pt.nv o (.cat a b)).node]++post,by simp[Pt.enc,Pt.nv,NV.node],by rw[List.length_append,Pt.iU,hp]⟩⟩
theorem At.alt1{l:List Nd}{o:Nat}{a b:Pt}(h:At l o (.alt a b)):At l o a/\At l (o+a.sz) b:=by
 obtain⟨pre,post,rfl,hp⟩:=h;exact⟨⟨pre,b.enc (o+a.sz)++([(Pt.nv o (.alt a b)).node]++post),by simp[Pt.enc,Pt.nv,NV.node],hp⟩,⟨pre++a.enc o,[(Pt.nv o (.alt a b)).node]++post,by simp[Pt.enc,Pt.nv,NV.node],by rw[List.length_append,Pt.iU,hp]⟩⟩
theorem At.xBg{l:List Nd}{o:Nat}{a:Pt}{lo hi:Int}(h:At l o (.times a lo hi)):At l o a:=by
 obtain⟨pre,post,rfl,hp⟩:=h;exact⟨pre,[(Pt.nv o (.times a lo hi)).node]++post,by simp[Pt.enc,Pt.nv,NV.node],hp⟩
theorem At.xBh{l:List Nd}{o:Nat}{a:Pt}{m:Nat}(h:At l o (.group a m)):At l o a:=by
 obtain⟨pre,post,rfl,hp⟩:=h;exact⟨pre,[(Pt.nv o (.group a m)).node]++post,by simp[Pt.enc,Pt.nv,NV.node],hp⟩
theorem At.self(t:Pt):At (t.enc 0) 0 t:=⟨[],[],by simp,rfl⟩
def wR:Pt->Bool | .bytes p=>!Er p | .cat a b=>wR a&&wR b | .alt a b=>wR a&&wR b | .times a lo hi=>wR a&&zCx lo hi | .group a m=>wR a&&(decide (1<=m)&&decide (m<=9)) | .ref m=>decide (1<=m)&&decide (m<=9) | _=>true
def Hq:Pt->Bool | .cat a b=>Hq a&&Hq b&&(decide (a.kind ≠ 4)&&decide (a.kind ≠ 5)&&decide (b.kind ≠ 5)) | .alt a b=>Hq a&&Hq b&&decide (a.kind ≠ 5) | .times a _ _=>Hq a&&(decide (a.kind = 1)||decide (a.kind = 7)||decide (a.kind = 8)) | .group a _=>Hq a | _=>true
def Ev:Pt->Bool | .empty=>false | .cat a b=>Ev a&&Ev b | .alt a b=>Ev a&&Ev b | .times a _ _=>Ev a | .group a _=>Ev a | _=>true
def encR:List Pt->List Nd | []=>[] | t :: st=>encR st++t.enc (szA st)
def jA:List Pt->List Int | []=>[] | t :: st=>jA st++[t.top (szA st)]
theorem Po:∀ st:List Pt,(encR st).length=szA st
 |[]=>rfl
 |t::st=>by simp only[encR,szA,List.length_append,Po st,Pt.iU];omega
theorem vT:∀ st:List Pt,(jA st).length=st.length
 |[]=>rfl
 |t::st=>by simp only[jA,List.length_append,vT st,List.length_cons,List.length_nil]
def mO(len:Nat)(st:List Pt)(v:NV):Option (List Pt):=
 match v with
 |.empty=>if len>1 then none else some (.empty::st)
 |.bytes p=>some (.bytes p::st)
 |.bol=>some (.bol::st)
 |.eol=>some (.eol::st)
 |.ref m=>some (.ref m::st)
 |.cat x y=>match st with
  |b::a::st'=>if a.top (szA st')=x/\b.top (szA st'+a.sz)=y/\a.kind≠4/\a.kind≠5/\b.kind≠5 then some (.cat a b::st')else none
  |_=>none
 |.alt x y=>match st with
  |b::a::st'=>if a.top (szA st')=x/\b.top (szA st'+a.sz)=y/\a.kind≠5 then some (.alt a b::st')else none
  |_=>none
 |.times x lo hi=>match st with
  |a::st'=>if a.top (szA st')=x/\(a.kind=1\/a.kind=7\/a.kind=8)then some (.times a lo hi::st')else none
  |_=>none
 |.group x m=>match st with
  |a::st'=>if a.top (szA st')=x then some (.group a m::st')else none
  |_=>none
theorem Pp(st:List Pt)(a:Pt):szA (a::st)=szA st+a.sz:=by simp only[szA];omega
theorem Zn{len:Nat}{st st2:List Pt}{v:NV}(h:mO len st v=some st2):encR st2=encR st++[v.node]:=by
 unfold mO at h;cases v<;>simp only at h
 case empty=>split at h<;>simp at h;subst h;rfl
 case bytes p=>simp at h;subst h;rfl
 case bol=>simp at h;subst h;rfl
 case eol=>simp at h;subst h;rfl
 case ref m=>simp at h;subst h;rfl
 case cat x y =>
  match st,h with
  |[],h=>simp at h
  |[_],h=>simp at h
  |b::a::st',h =>
   simp only at h;split at h<;>simp at h
   rename_i hc;subst h;simp only[encR,Pt.enc,Pp,List.append_assoc,NV.node,hc.1,hc.2.1]
 case alt x y =>
  match st,h with
  |[],h=>simp at h
  |[_],h=>simp at h
  |b::a::st',h =>
   simp only at h;split at h<;>simp at h
   rename_i hc;subst h;simp only[encR,Pt.enc,Pp,List.append_assoc,NV.node,hc.1,hc.2.1]
 case times x lo hi =>
  match st,h with
  |[],h=>simp at h
  |a::st',h =>
   simp only at h;split at h<;>simp at h
   rename_i hc;subst h;simp only[encR,Pt.enc,List.append_assoc,NV.node,hc.1]
 case group x m =>
  match st,h with
  |[],h=>simp at h
  |a::st',h =>
   simp only at h;split at h<;>simp at h
   rename_i hc;subst h;simp only[encR,Pt.enc,List.append_assoc,NV.node,hc]
def Rx (len:Nat) (t:Pt):Prop:=wR t = true ∧ Hq t = true ∧ (len > 1->Ev t = true)
theorem yTm{len:Nat}{st st2:List Pt}{v:NV}(hv:v.ok=true)(hst:∀ t∈st,Rx len t)(h:mO len st v=some st2):∀ t∈st2,Rx len t:=by
 unfold mO at h;cases v<;>simp only at h
 case empty =>
  split at h<;>simp at h;subst h
  rename_i hl;intro t ht;rcases List.mem_cons.1 ht with rfl|ht
  ·exact⟨rfl,rfl,λh=>absurd h hl⟩
  ·exact hst t ht
 case bytes p=>simp at h;subst h;intro t ht;rcases List.mem_cons.1 ht with rfl|ht;exact⟨hv,rfl,λ_=>rfl⟩;exact hst t ht
 case bol=>simp at h;subst h;intro t ht;rcases List.mem_cons.1 ht with rfl|ht;exact⟨rfl,rfl,λ_=>rfl⟩;exact hst t ht
 case eol=>simp at h;subst h;intro t ht;rcases List.mem_cons.1 ht with rfl|ht;exact⟨rfl,rfl,λ_=>rfl⟩;exact hst t ht
 case ref m=>simp at h;subst h;intro t ht;rcases List.mem_cons.1 ht with rfl|ht;exact⟨hv,rfl,λ_=>rfl⟩;exact hst t ht
 case cat x y =>
  match st,h with
  |[],h=>simp at h
  |[_],h=>simp at h
  |b::a::st',h =>
   simp only at h;split at h<;>simp at h
   rename_i hc;subst h;intro t ht;have ha:=hst a (by simp);have hb:=hst b (by simp);rcases List.mem_cons.1 ht with rfl|ht
   ·exact⟨by simp[wR,ha.1,hb.1],by simp[Hq,ha.2.1,hb.2.1,hc.2.2.1,hc.2.2.2.1,hc.2.2.2.2],λhl=>by simp[Ev,ha.2.2 hl,hb.2.2 hl]⟩
   ·exact hst t (by simp[ht])
 case alt x y =>
  match st,h with
  |[],h=>simp at h
  |[_],h=>simp at h
  |b::a::st',h =>
   simp only at h;split at h<;>simp at h
   rename_i hc;subst h;intro t ht;have ha:=hst a (by simp);have hb:=hst b (by simp);rcases List.mem_cons.1 ht with rfl|ht
   ·exact⟨by simp[wR,ha.1,hb.1],by simp[Hq,ha.2.1,hb.2.1,hc.2.2],λhl=>by simp[Ev,ha.2.2 hl,hb.2.2 hl]⟩
   ·exact hst t (by simp[ht])
 case times x lo hi =>
  match st,h with
  |[],h=>simp at h
  |a::st',h =>
   simp only at h;split at h<;>simp at h
   rename_i hc;subst h;intro t ht;have ha:=hst a (by simp);rcases List.mem_cons.1 ht with rfl|ht
   ·refine⟨by simp only[wR,ha.1,Bool.true_and];exact hv,?_,λhl=>by simp[Ev,ha.2.2 hl]⟩;simp only[Hq,ha.2.1,Bool.true_and,Bool.or_eq_true,decide_eq_true_eq];rcases hc.2 with h|h|h
    ·exact Or.inl (Or.inl h)
    ·exact Or.inl (Or.inr h)
    ·exact Or.inr h
   ·exact hst t (by simp[ht])
 case group x m =>
  match st,h with
  |[],h=>simp at h
  |a::st',h =>
   simp only at h;split at h<;>simp at h
   rename_i hc;subst h;intro t ht;have ha:=hst a (by simp);rcases List.mem_cons.1 ht with rfl|ht
   ·exact⟨by simp only[wR,ha.1,Bool.true_and];exact hv,by simp[Hq,ha.2.1],λhl=>by simp[Ev,ha.2.2 hl]⟩
   ·exact hst t (by simp[ht])
def wE(len:Nat):List NV->List Pt->Option (List Pt)
 |[],st=>some st
 |v::vs,st=>match mO len st v with
  |none=>none
  |some st2=>wE len vs st2
theorem Ew(len:Nat):∀ (a b:List NV) (st:List Pt),wE len (a++b) st=(wE len a st).bind (wE len b)
 |[],b,st=>rfl
 |v::a,b,st=>by
  simp only[List.cons_append,wE];cases mO len st v with
  |none=>rfl
  |some st2=>exact Ew len a b st2
def Pt.nvs (o:Nat):Pt->List NV | .cat a b=>a.nvs o++b.nvs (o+a.sz)++[.cat (a.top o) (b.top (o+a.sz))] | .alt a b=>a.nvs o++b.nvs (o+a.sz)++[.alt (a.top o) (b.top (o+a.sz))] | .times a lo hi=>a.nvs o++[.times (a.top o) lo hi] | .group a m=>a.nvs o++[.group (a.top o) m] | .empty=>[.empty] | .bytes p=>[.bytes p] | .bol=>[.bol] | .eol=>[.eol] | .ref m=>[.ref m]
theorem Kl:∀ (t:Pt) (o:Nat),(t.nvs o).map NV.node=t.enc o
 |.cat a b,o=>by simp[Pt.nvs,Pt.enc,Kl a,Kl b,NV.node]
 |.alt a b,o=>by simp[Pt.nvs,Pt.enc,Kl a,Kl b,NV.node]
 |.times a _ _,o=>by simp[Pt.nvs,Pt.enc,Kl a,NV.node]
 |.group a _,o=>by simp[Pt.nvs,Pt.enc,Kl a,NV.node]
 |.empty,_|.bytes _,_|.bol,_|.eol,_|.ref _,_=>rfl
theorem Ya:∀ (t:Pt) (o:Nat),wR t=true->∀ v∈t.nvs o,v.ok=true
 |.cat a b,o,h,v,hv=>by
  simp only[wR,aD]at h;simp only[Pt.nvs,List.mem_append,List.mem_singleton]at hv;rcases hv with (hv|hv)|rfl
  ·exact Ya a o h.1 v hv
  ·exact Ya b _ h.2 v hv
  ·rfl
 |.alt a b,o,h,v,hv=>by
  simp only[wR,aD]at h;simp only[Pt.nvs,List.mem_append,List.mem_singleton]at hv;rcases hv with (hv|hv)|rfl
  ·exact Ya a o h.1 v hv
  ·exact Ya b _ h.2 v hv
  ·rfl
 |.times a lo hi,o,h,v,hv=>by
  simp only[wR,aD]at h;simp only[Pt.nvs,List.mem_append,List.mem_singleton]at hv;rcases hv with hv|rfl
  ·exact Ya a o h.1 v hv
  ·exact h.2
 |.group a m,o,h,v,hv=>by
  simp only[wR,aD]at h;simp only[Pt.nvs,List.mem_append,List.mem_singleton]at hv;rcases hv with hv|rfl
  ·exact Ya a o h.1 v hv
  ·simp only[NV.ok,aD];exact h.2
 |.empty,_,h,v,hv=>by simp only[Pt.nvs,List.mem_singleton]at hv;subst hv;rfl
 |.bytes _,_,h,v,hv=>by simp only[Pt.nvs,List.mem_singleton]at hv;subst hv;exact h
 |.bol,_,h,v,hv=>by simp only[Pt.nvs,List.mem_singleton]at hv;subst hv;rfl
 |.eol,_,h,v,hv=>by simp only[Pt.nvs,List.mem_singleton]at hv;subst hv;rfl
 |.ref _,_,h,v,hv=>by simp only[Pt.nvs,List.mem_singleton]at hv;subst hv;exact h
theorem Ay(len:Nat):∀ (t:Pt) (st:List Pt),Hq t=true->(len>1->Ev t=true)->wE len (t.nvs (szA st)) st=some (t::st)
 |.cat a b,st,h,hn=>by
  simp only[Hq,aD,decide_eq_true_eq]at h;simp only[Ev,aD]at hn;have ha:=Ay len a st h.1.1 (λhl=>(hn hl).1);have hb:=Ay len b (a::st) h.1.2 (λhl=>(hn hl).2);rw[Pp]at hb;simp only[Pt.nvs];rw[Ew,Ew,ha];simp only[Option.bind_some];rw[hb];simp only[Option.bind_some,wE,mO];rw[if_pos (by refine⟨?_,?_,h.2.1.1,h.2.1.2,h.2.2⟩<;>first|trivial|rfl)]
 |.alt a b,st,h,hn=>by
  simp only[Hq,aD,decide_eq_true_eq]at h;simp only[Ev,aD]at hn;have ha:=Ay len a st h.1.1 (λhl=>(hn hl).1);have hb:=Ay len b (a::st) h.1.2 (λhl=>(hn hl).2);rw[Pp]at hb;simp only[Pt.nvs];rw[Ew,Ew,ha];simp only[Option.bind_some];rw[hb];simp only[Option.bind_some,wE,mO];rw[if_pos (by refine⟨?_,?_,h.2⟩<;>first|trivial|rfl)]
 |.times a lo hi,st,h,hn=>by
  simp only[Hq,aD,Bool.or_eq_true,decide_eq_true_eq]at h;simp only[Ev]at hn;have ha:=Ay len a st h.1 hn;simp only[Pt.nvs];rw[Ew,ha];simp only[Option.bind_some,wE,mO];rw[if_pos (by refine⟨?_,by rcases h.2 with (h|h)|h;exact Or.inl h;exact Or.inr (Or.inl h);exact Or.inr (Or.inr h)⟩;first|trivial|rfl)]
 |.group a m,st,h,hn=>by
  simp only[Hq]at h;simp only[Ev]at hn;have ha:=Ay len a st h hn;simp only[Pt.nvs];rw[Ew,ha];simp only[Option.bind_some,wE,mO];rw[if_pos (by first|trivial|rfl)]
 |.empty,st,h,hn=>by
  simp only[Pt.nvs,wE,mO];rw[if_neg (λhl=>by simp[Ev]at hn;omega)]
 |.bytes _,st,_,_=>rfl
 |.bol,st,_,_=>rfl
 |.eol,st,_,_=>rfl
 |.ref _,st,_,_=>rfl
end Go.Dec
