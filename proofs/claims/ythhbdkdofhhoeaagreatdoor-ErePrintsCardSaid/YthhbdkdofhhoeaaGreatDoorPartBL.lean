/- Part of a proof over this seat: a library of my own, and what it says of this seat. No statement is proved here. -/
import Derived.Test.YthhbdkdofhhoeaaGreatDoorPartBK
import Derived.Test.YthhbdkdofhhoeaaGreatDoorPartBC
namespace Go.Dec
inductive jL (α:Type) where
 |ok (a:α) (r:List UInt8) (b:Nat)
 |er (e k:Nat)
def gH:List UInt8->Bool | []=>false | c :: _=>c==42||c==43||c==63||c==123
def mY:List UInt8->Bool | []=>true | c :: _=>c==124||c==41
def mK:List UInt8:=[46,91,92,40,41,42,43,63,123,125,124,94,36]
def vE:List UInt8:=mK++[47]
def oW(r:List UInt8):Option (Int × Int × List UInt8):=
 match qW r with
 |(none,_)=>none
 |(some lo,r1)=>
  bif [44].isPrefixOf r1 then
   match qW (r1.drop 1)with
   |(none,r2)=>bif [125].isPrefixOf r2&&decide (lo<=255)then some ((lo:Int),-1,r2.drop 1)else none
   |(some hi,r2)=>bif [125].isPrefixOf r2&&decide (lo<=255)&&decide (hi<=255)&&decide (lo<=hi)&&decide (1<=hi)then some ((lo:Int),(hi:Int),r2.drop 1)else none
  else bif [125].isPrefixOf r1&&decide (lo<=255)&&decide (1<=lo)then some ((lo:Int),(lo:Int),r1.drop 1)else none
def Qg (t:Pt) (lo hi:Int) (r:List UInt8) (b:Nat):jL Pt :=bif gH r then .er 43 r.length else .ok (.times t lo hi) r b
def pK(t:Pt)(r:List UInt8)(b:Nat):jL Pt :=
 match r with
 |[]=>.ok t [] b
 |c::r1 =>
  bif c==42 then Qg t 0 (-1) r1 b
  else bif c==43 then Qg t 1 (-1) r1 b
  else bif c==63 then Qg t 0 1 r1 b
  else bif c==123 then
   match oW r1 with
   |none=>.er 43 (r1.length+1)
   |some (lo,hi,r2)=>Qg t lo hi r2 b
  else .ok t (c::r1) b
def rO (mk:Pt->Pt->Pt):List Pt->Pt | [] => .empty | [t]=>t | t :: u :: ts=>mk t (rO mk (u :: ts))
def dX (ts:List Pt):Pt:=rO .cat ts
def dO (rs:List (List Pt)):Pt:=rO .alt (rs.map dX)
def Bw(rows:List UInt8->Nat->jL (List (List Pt)))(r:List UInt8)(b:Nat):jL Pt :=
 match r with
 |[]=>.er 40 0
 |c::r1 =>
  bif c==94 then(bif gH r1 then .er 43 r1.length else .ok .bol r1 b)
  else bif c==36 then(bif gH r1 then .er 43 r1.length else .ok .eol r1 b)
  else bif gH (c::r1)then .er 43 (r1.length+1)
  else bif c==46 then .ok (.bytes λ_=>true) r1 b
  else bif c==91 then
   match Gi (c::r1)with
   |none=>.er 42 (r1.length+1)
   |some (p,k)=>.ok (.bytes p) ((c::r1).drop k) b
  else bif c==40 then
   bif b==9 then .er 41 (r1.length+1)
   else match rows r1 (b+1)with
    |.er e k=>.er e k
    |.ok rs r2 b2=>match r2 with
     |[]=>.er 41 (r1.length+1)
     |_::r3=>.ok (.group (dO rs) (b+1)) r3 b2
  else bif c==92 then
   match r1 with
   |[]=>.er 40 1
   |d::r2 =>
    bif d==110 then .ok (.bytes (Lf 10)) r2 b
    else bif vE.contains d then .ok (.bytes (Lf d)) r2 b
    else bif decide (49<=d.toNat)&&decide (d.toNat<=57)then .er 44 (r2.length+2)
    else .er 40 (r2.length+2)
  else .ok (.bytes (Lf c)) r1 b
def lN(rows:List UInt8->Nat->jL (List (List Pt)))(r:List UInt8)(b:Nat):jL Pt :=
 match Bw rows r b with
 |.er e k=>.er e k
 |.ok t r1 b1=>pK t r1 b1
def kT(rows:List UInt8->Nat->jL (List (List Pt))):Nat->List UInt8->Nat->List Pt->jL (List Pt)
 |0,_,_,_=>.er 0 0
 |f+1,r,b,acc =>
  bif mY r then .ok acc r b
  else match lN rows r b with
   |.er e k=>.er e k
   |.ok t r1 b1=>kT rows f r1 b1 (acc++[t])
def Bz(rows:List UInt8->Nat->jL (List (List Pt)))(top:Bool):Nat->List UInt8->Nat->List (List Pt)->jL (List (List Pt))
 |0,_,_,_=>.er 0 0
 |f+1,r,b,acc =>
  match kT rows (r.length+1) r b []with
  |.er e k=>.er e k
  |.ok [] r2 _=>.er (bif top&&[41].isPrefixOf r2 then 41 else 40) r2.length
  |.ok (t::ts) r2 b2 =>
   bif [124].isPrefixOf r2 then Bz rows top f (r2.drop 1) b2 (acc++[t::ts])
   else .ok (acc++[t::ts]) r2 b2
def mQ:Nat->Bool->List UInt8->Nat->jL (List (List Pt)) | 0,_,_,_ => .er 0 0 | f+1,top,r,b=>Bz (mQ f false) top (r.length+1) r b []
def wL(s:List UInt8):Sum Pt (Nat × Nat):=
 match s with
 |[]=>.inl .empty
 |_=>match mQ 11 true s 0 with
  |.er e k=>.inr (e,s.length-k)
  |.ok rs r _ =>
   match r with
   |[]=>bif decide ((dO rs).sz>120)then .inr (2,0)else .inl (dO rs)
   |_=>.inr (41,s.length-r.length)
theorem Xl{r:List UInt8}{lo hi:Int}{r2:List UInt8}(h:oW r=some (lo,hi,r2)):r2 <:+ r:=by
 unfold oW at h;have n1:=Ik r;cases hlo:qW r with
 |mk l1 r1 =>
  rw[hlo]at n1 h;cases l1 with
  |none=>simp at h
  |some l1 =>
   simp only at h n1;cases hc:[44].isPrefixOf r1<;>rw[hc]at h<;>simp only[cond_true,cond_false]at h
   ·cases hb:[125].isPrefixOf r1&&decide (l1<=255)&&decide (1<=l1)<;>rw[hb]at h<;>simp only[cond_true,cond_false,aA,aF,reduceCtorEq]at h
    rw[<- h.2.2];exact(List.drop_suffix _ _).trans n1
   ·have n2:=Ik (r1.drop 1);cases hhi:qW (r1.drop 1)with
    |mk h1 r3 =>
     rw[hhi]at n2 h;simp only at n2;have n3:r3.drop 1 <:+ r:=(List.drop_suffix _ _).trans (n2.trans ((List.drop_suffix _ _).trans n1));cases h1 with
     |none =>
      simp only at h;cases hb:[125].isPrefixOf r3&&decide (l1<=255)<;>rw[hb]at h<;>simp only[cond_true,cond_false,aA,aF,reduceCtorEq]at h
      rw[<- h.2.2];exact n3
     |some h1 =>
      simp only at h;cases hb:[125].isPrefixOf r3&&decide (l1<=255)&&decide (h1<=255)&&decide (l1<=h1)&&decide (1<=h1)<;>rw[hb]at h<;>simp only[cond_true,cond_false,aA,aF,reduceCtorEq]at h
      rw[<- h.2.2];exact n3
theorem yRg{r:List UInt8}{lo hi:Int}{r2:List UInt8}(h:oW r=some (lo,hi,r2)):iA lo hi=true:=by
 unfold oW at h;cases hlo:qW r with
 |mk l1 r1 =>
  rw[hlo]at h;cases l1 with
  |none=>simp at h
  |some l1 =>
   simp only at h;cases hc:[44].isPrefixOf r1<;>rw[hc]at h<;>simp only[cond_true,cond_false]at h
   ·cases hb:[125].isPrefixOf r1&&decide (l1<=255)&&decide (1<=l1)<;>rw[hb]at h<;>simp only[cond_true,cond_false,aA,aF,reduceCtorEq]at h
    simp only[aH,decide_eq_true_eq]at hb;obtain⟨rfl,rfl,_⟩:=h;simp[iA];omega
   ·cases hhi:qW (r1.drop 1)with
    |mk h1 r3 =>
     rw[hhi]at h;cases h1 with
     |none =>
      simp only at h;cases hb:[125].isPrefixOf r3&&decide (l1<=255)<;>rw[hb]at h<;>simp only[cond_true,cond_false,aA,aF,reduceCtorEq]at h
      simp only[aH,decide_eq_true_eq]at hb;obtain⟨rfl,rfl,_⟩:=h;simp[iA];omega
     |some h1 =>
      simp only at h;cases hb:[125].isPrefixOf r3&&decide (l1<=255)&&decide (h1<=255)&&decide (l1<=h1)&&decide (1<=h1)<;>rw[hb]at h<;>simp only[cond_true,cond_false,aA,aF,reduceCtorEq]at h
      simp only[aH,decide_eq_true_eq]at hb;obtain⟨rfl,rfl,_⟩:=h;simp[iA];omega
def zPh (r:List UInt8) (e k:Nat):Prop:=yVb e ∧ k<=r.length
def yCe(t:Pt)(r:List UInt8)(b:Nat):jL Pt->Prop
 |.ok t' r' b'=>r' <:+ r/\b'=b/\t'.sz+3*r'.length<=t.sz+3*r.length/\(t'=t\/∃ lo hi,t'=.times t lo hi/\iA lo hi=true)
 |.er e k=>zPh r e k
theorem Rs{t:Pt}{lo hi:Int}{r0 r:List UInt8}{b:Nat}(h:r <:+ r0)(h2:r.length<r0.length)(ho:iA lo hi=true):yCe t r0 b (Qg t lo hi r b):=by
 unfold Qg;cases gH r
 ·exact⟨h,rfl,by simp only[Pt.sz];omega,Or.inr ⟨_,_,rfl,ho⟩⟩
 ·exact⟨⟨by omega,by omega⟩,h.length_le⟩
theorem zGa(t:Pt)(r:List UInt8)(b:Nat):yCe t r b (pK t r b):=by
 unfold pK;cases r with
 |nil=>exact⟨List.suffix_refl _,rfl,bA _,Or.inl rfl⟩
 |cons c r1 =>
  have hs:r1 <:+ c::r1:=List.suffix_cons _ _;have hl:r1.length<(c::r1).length:=by simp
  simp only;cases c==42
  case true=>exact Rs hs hl (by decide)
  cases c==43
  case true=>exact Rs hs hl (by decide)
  cases c==63
  case true=>exact Rs hs hl (by decide)
  cases c==123
  case true =>
   simp only[cond_true,cond_false];cases ho:oW r1 with
   |none=>exact⟨⟨by omega,by omega⟩,by simp⟩
   |some x =>
    obtain⟨lo,hi,r2⟩:=x;have:=Xl ho;have:=this.length_le;exact Rs ((Xl ho).trans hs) (by simp only[List.length_cons];omega) (yRg ho)
  exact⟨List.suffix_refl _,rfl,bA _,Or.inl rfl⟩
def iM:List (List Pt)->Nat | []=>0 | ts :: rs=>szL ts+iM rs
theorem Cx:∀ (a b:List (List Pt)),iM (a++b)=iM a+iM b
 |[],b=>by simp[iM]
 |x::a,b=>by simp only[List.cons_append,iM];rw[Cx a b];omega
theorem zYh(mk:Pt->Pt->Pt)(hm:∀ a b,(mk a b).sz=a.sz+b.sz+1):∀ (t:Pt) (ts:List Pt),(rO mk (t::ts)).sz+1=szL (t::ts)
 |t,[]=>by simp[rO,szL]
 |t,u::ts=>by
  have:=zYh mk hm u ts;simp only[rO,hm];rw[szL];omega
theorem zEi(t:Pt)(ts:List Pt):(dX (t::ts)).sz+1=szL (t::ts):=zYh _ (λ_ _=>rfl) t ts
def zMj (ts:List Pt):Prop:=ts ≠ [] ∧ ∀ t ∈ ts,zCt t
theorem Xm:∀ (rs:List (List Pt)),rs≠[]->(∀ ts∈rs,ts≠[])->(dO rs).sz+1<=iM rs
 |[],h,_=>absurd rfl h
 |[ts],_,h=>by
  have:=h ts (by simp);cases ts with
  |nil=>exact absurd rfl this
  |cons t ts=>simp only[dO,List.map_cons,List.map_nil,rO,iM];have:=zEi t ts;omega
 |ts::us::rs,_,h=>by
  have h1:=Xm (us::rs) (by simp) (λx hx=>h x (by simp at hx ⊢;exact Or.inr hx));have:=h ts (by simp);cases ts with
  |nil=>exact absurd rfl this
  |cons t ts =>
   have:=zEi t ts;simp only[dO,List.map_cons,rO,Pt.sz]at h1 ⊢;simp only[iM]at h1 ⊢;omega
end Go.Dec
namespace Go.Dec
def zPi(t:Pt)(b b':Nat):Prop:=∀ i en rf,∃ en',aP t (b,i,en,rf)=(b',i,en',rf)
def Xn(ts:List Pt)(b b':Nat):Prop:=∀ i en rf,∃ en',Ti ts (b,i,en,rf)=(b',i,en',rf)
theorem yNu(a b:List Pt)(w:W4):Ti (a++b) w=Ti b (Ti a w):=by simp[Ti]
theorem Xn.app{a b:List Pt}{x y z:Nat}(h1:Xn a x y)(h2:Xn b y z):Xn (a++b) x z:=λi en rf=>by
 obtain⟨e1,h1⟩:=h1 i en rf;obtain⟨e2,h2⟩:=h2 i e1 rf;exact⟨e2,by rw[yNu,h1,h2]⟩
theorem zPi.one{t:Pt}{x y:Nat}(h:zPi t x y):Xn [t] x y:=h
theorem zCu(mk:Pt->Pt->Pt)(hm:∀ a b w,aP (mk a b) w=aP b (aP a w)):∀ (t:Pt) (ts:List Pt) (w:W4),aP (rO mk (t::ts)) w=Ti (t::ts) w
 |t,[],w=>rfl
 |t,u::ts,w=>by
  simp only[rO,hm];rw[zCu mk hm u ts];rfl
theorem zYi{ts:List Pt}(h:ts≠[])(w:W4):aP (dX ts) w=Ti ts w:=by
 cases ts with
 |nil=>exact absurd rfl h
 |cons t ts=>exact zCu _ (λ_ _ _=>rfl) t ts w
def zTq (rs:List (List Pt)) (w:W4):W4:=rs.foldl (fun w ts=>Ti ts w) w
theorem zRd:∀ {rs:List (List Pt)},rs≠[]->(∀ ts∈rs,ts≠[])->∀ w,aP (dO rs) w=zTq rs w:=by
 intro rs h1 h2 w;cases rs with
 |nil=>exact absurd rfl h1
 |cons t ts =>
  rw[dO,List.map_cons,zCu _ (λ_ _ _=>rfl)];simp only[Ti,zTq,List.foldl_cons,List.foldl_map];rw[zYi (h2 t (by simp))];have:∀ (l:List (List Pt)) (w:W4),(∀ x∈l,x≠[])->l.foldl (λw t=>aP (dX t) w) w=l.foldl (λw ts=>Ti ts w) w:=by
   intro l;induction l with
   |nil=>intro w _;rfl
   |cons x l ih =>
    intro w hx;simp only[List.foldl_cons];rw[zYi (hx x (by simp)),ih _ (λy hy=>hx y (by simp[hy]))]
  exact this ts _ (λx hx=>h2 x (by simp[hx]))
def Ko(rs:List (List Pt))(b b':Nat):Prop:=∀ i en rf,∃ en',zTq rs (b,i,en,rf)=(b',i,en',rf)
theorem Ko.app{a b:List (List Pt)}{x y z:Nat}(h1:Ko a x y)(h2:Ko b y z):Ko (a++b) x z:=λi en rf=>by
 obtain⟨e1,h1⟩:=h1 i en rf;obtain⟨e2,h2⟩:=h2 i e1 rf;exact⟨e2,by simp only[zTq,List.foldl_append]at *;rw[h1,h2]⟩
theorem zCv:∀ (t:Pt) (ts:List Pt),(∀ u∈t::ts,zCt u)->yRf (dX (t::ts))/\(ts≠[]->(dX (t::ts)).kind=4)
 |t,[],h=>⟨by have:=h t (by simp);exact⟨this.1,this.2.1,this.2.2.1,this.2.2.2.2⟩,λh=>absurd rfl h⟩
 |t,u::ts,h=>by
  have hk:=h t (by simp);have hv:=(zCv u ts (λx hx=>h x (by simp at hx ⊢;exact Or.inr hx))).1;simp only[dX,rO]at hv ⊢;exact⟨⟨by simp[bY,hk.1,hv.1],by simp[eO,hk.2.1,hv.2.1,hk.2.2.2.1,hk.2.2.2.2,hv.2.2.2],by simp[iL,hk.2.2.1,hv.2.2.1],by simp[Pt.kind]⟩,λ_=>rfl⟩
def zYj (t:Pt):Prop:=bY t = true ∧ eO t = true ∧ iL t = true
theorem zIq:∀ (rs:List (List Pt)),rs≠[]->(∀ ts∈rs,zMj ts)->zYj (dO rs)
 |[],h,_=>absurd rfl h
 |[ts],_,h=>by
  have:=h ts (by simp);cases ts with
  |nil=>exact absurd rfl this.1
  |cons t ts=>have:=(zCv t ts this.2).1;exact⟨this.1,this.2.1,this.2.2.1⟩
 |ts::us::rs,_,h=>by
  have h1:=zIq (us::rs) (by simp) (λx hx=>h x (by simp at hx ⊢;exact Or.inr hx));have h2:=h ts (by simp);cases ts with
  |nil=>exact absurd rfl h2.1
  |cons t ts =>
   have h3:=(zCv t ts h2.2).1;simp only[dO,List.map_cons,rO,zYj]at h1 ⊢;exact⟨by simp[bY,h3.1,h1.1],by simp[eO,h3.2.1,h1.2.1,h3.2.2.2],by simp[iL,h3.2.2.1,h1.2.2]⟩
def zYk(r:List UInt8)(b:Nat):jL Pt->Prop
 |.ok t r' b'=>r' <:+ r/\t.sz+2+3*r'.length<=3*r.length/\b<=b'/\b'<=9/\zPi t b b'/\(zYg t\/((t=.bol\/t=.eol)/\gH r'=false))
 |.er e k=>zPh r e k
def yVm(r:List UInt8)(b:Nat):jL Pt->Prop
 |.ok t r' b'=>r' <:+ r/\t.sz+2+3*r'.length<=3*r.length/\b<=b'/\b'<=9/\zPi t b b'/\zCt t
 |.er e k=>zPh r e k
def uX(r:List UInt8)(b:Nat):jL (List (List Pt))->Prop
 |.ok rs r' b'=>r' <:+ r/\iM rs+3*r'.length<=3*r.length/\b<=b'/\b'<=9/\Ko rs b b'/\rs≠[]/\(∀ ts∈rs,zMj ts)/\(r'=[]\/∃ r2,r'=41::r2)
 |.er e k=>zPh r e k
theorem zIr{t:Pt}(h:∀ w,aP t w=w)(b:Nat):zPi t b b:=λi en rf=>⟨en,h _⟩
theorem yGi{rows:List UInt8->Nat->jL (List (List Pt))}{r:List UInt8}{b:Nat}(hb:b<=9)(hne:r≠[])(hrow:∀ r,b+1<=9->uX r (b+1) (rows r (b+1))):zYk r b (Bw rows r b):=by
 cases r with
 |nil=>exact absurd rfl hne
 |cons c r1 =>
  have hs:r1 <:+ c::r1:=List.suffix_cons _ _;have hg:∀ e k,40<=e->e<=44->k<=r1.length+1->zYk (c::r1) b (.er e k):=λe k h1 h2 h3=>⟨⟨h1,h2⟩,h3⟩
  have hbytes:∀ (p:Nat->Bool) (x:List UInt8),gM p=false->x <:+ c::r1->x.length<=r1.length->zYk (c::r1) b (.ok (.bytes p) x b):=λp x hp hx hl =>
   ⟨hx,by simp only[Pt.sz,List.length_cons];omega,bA _,hb,zIr (λ_=>rfl) b,Or.inl ⟨by simp[bY,hp],rfl,rfl,Or.inl rfl⟩⟩
  unfold Bw;simp only;cases c==94
  case true =>
   simp only[cond_true];cases ha:gH r1
   ·exact⟨hs,by simp only[Pt.sz,List.length_cons];omega,bA _,hb,zIr (λ_=>rfl) b,Or.inr ⟨Or.inl rfl,ha⟩⟩
   ·exact hg _ _ (by omega) (by omega) (by omega)
  cases c==36
  case true =>
   simp only[cond_true,cond_false];cases ha:gH r1
   ·exact⟨hs,by simp only[Pt.sz,List.length_cons];omega,bA _,hb,zIr (λ_=>rfl) b,Or.inr ⟨Or.inr rfl,ha⟩⟩
   ·exact hg _ _ (by omega) (by omega) (by omega)
  simp only[cond_false];cases gH (c::r1)
  case true=>exact hg _ _ (by omega) (by omega) (by omega)
  simp only[cond_false];cases c==46
  case true=>exact hbytes _ _ (zYf (i:=0) (by omega) rfl) hs (bA _)
  simp only[cond_false];cases c==91
  case true =>
   simp only[cond_true];cases h3:Gi (c::r1)with
   |none=>exact hg _ _ (by omega) (by omega) (by omega)
   |some x =>
    obtain⟨p,k⟩:=x;have hk:=zIm h3;exact hbytes _ _ (yRe h3) (List.drop_suffix _ _) (by simp only[List.length_drop,List.length_cons];omega)
  simp only[cond_false];cases c==40
  case true =>
   simp only[cond_true];cases h9:b==9
   case true=>exact hg _ _ (by omega) (by omega) (by omega)
   have hb9:b≠9:=by simpa using h9
   simp only[cond_false];have hr:=hrow r1 (by omega);cases ho:rows r1 (b+1)with
   |er e k=>rw[ho]at hr;exact hg _ _ hr.1.1 hr.1.2 (by have:=hr.2;omega)
   |ok rs r2 b2 =>
    rw[ho]at hr;obtain⟨g1,g2,g3,g4,g5,g6,g7,g8⟩:=hr;cases r2 with
    |nil=>exact hg _ _ (by omega) (by omega) (by omega)
    |cons d r3 =>
     have hne:∀ ts∈rs,ts≠[]:=λts h=>(g7 ts h).1
     have hz:=Xm rs g6 hne;have ht:=zIq rs g6 g7;refine⟨((List.suffix_cons d r3).trans g1).trans hs,by simp only[Pt.sz,List.length_cons]at g2 ⊢;omega,by omega,g4,?_,Or.inl ⟨?_,?_,?_,Or.inr (Or.inl rfl)⟩⟩
     ·intro i en rf;obtain⟨en',h⟩:=g5 i en rf;refine⟨en'.set (b+1) true,?_⟩;simp only[aP,decide_true,Bool.and_true];rw[zRd g6 hne,h]
     ·simp[bY,ht.1];omega
     ·simp[eO,ht.2.1]
     ·simp[iL,ht.2.2]
  simp only[cond_false];cases c==92
  case true =>
   simp only[cond_true];cases r1 with
   |nil=>exact hg _ _ (by omega) (by omega) (by simp)
   |cons d r2 =>
    simp only;have hs2:r2 <:+ c::d::r2:=(List.suffix_cons d r2).trans (List.suffix_cons c _);cases d==110
    case true=>exact hbytes _ _ (zPg 10) hs2 (by simp)
    simp only[cond_false];cases vE.contains d
    case true=>exact hbytes _ _ (zPg d) hs2 (by simp)
    simp only[cond_false];cases decide (49<=d.toNat)&&decide (d.toNat<=57)
    ·exact hg _ _ (by omega) (by omega) (by simp)
    ·exact hg _ _ (by omega) (by omega) (by simp)
  exact hbytes _ _ (zPg c) hs (bA _)
theorem Gl{t:Pt}{r:List UInt8}{b:Nat}(h:gH r=false):pK t r b=.ok t r b:=by
 unfold pK;cases r with
 |nil=>rfl
 |cons c r1 =>
  simp only[gH,Bool.or_eq_false_iff]at h;simp only[h.1.1.1,h.1.1.2,h.1.2,h.2,cond_false]
theorem Gm{rows:List UInt8->Nat->jL (List (List Pt))}{r:List UInt8}{b:Nat}(hb:b<=9)(hne:r≠[])(hrow:∀ r,b+1<=9->uX r (b+1) (rows r (b+1))):yVm r b (lN rows r b):=by
 have ha:=yGi (rows:=rows) hb hne hrow;unfold lN;cases ho:Bw rows r b with
 |er e k=>rw[ho]at ha;exact ha
 |ok t r1 b1 =>
  rw[ho]at ha;obtain⟨g1,g2,g3,g4,g5,g6⟩:=ha;simp only;rcases g6 with g6|⟨g6,g7⟩
  ·have ht:=zGa t r1 b1;cases ho2:pK t r1 b1 with
   |er e k=>rw[ho2]at ht;exact⟨ht.1,Nat.le_trans ht.2 g1.length_le⟩
   |ok t2 r2 b2 =>
    rw[ho2]at ht;obtain⟨k1,rfl,k3,k4⟩:=ht;refine⟨k1.trans g1,by omega,g3,g4,?_,?_⟩
    ·rcases k4 with rfl|⟨lo,hi,rfl,_⟩
     ·exact g5
     ·exact g5
    ·rcases k4 with rfl|⟨lo,hi,rfl,ho⟩
     ·exact g6.item
     ·refine⟨by simp only[bY,g6.1,ho];rfl,?_,by simp[iL,g6.2.2.1],by simp[Pt.kind],by simp[Pt.kind]⟩;simp only[eO,g6.2.1,Bool.true_and,Bool.or_eq_true,decide_eq_true_eq];rcases g6.2.2.2 with h|h|h
      ·exact Or.inl (Or.inl h)
      ·exact Or.inl (Or.inr h)
      ·exact Or.inr h
  ·rw[Gl g7];refine⟨g1,by omega,g3,g4,g5,?_⟩;rcases g6 with rfl|rfl<;>exact⟨rfl,rfl,rfl,by simp[Pt.kind],by simp[Pt.kind]⟩
def yRh(r:List UInt8)(b:Nat)(acc:List Pt):jL (List Pt)->Prop
 |.ok ts r' b'=>∃ new,ts=acc++new/\r' <:+ r/\szL new+3*r'.length<=3*r.length/\b<=b'/\b'<=9/\Xn new b b'/\(∀ t∈new,zCt t)/\mY r'=true
 |.er e k=>zPh r e k
theorem Bh{rows:List UInt8->Nat->jL (List (List Pt))}(f0:Nat)(hrow:∀ r b,b+1<=9->f0<=b+1->uX r (b+1) (rows r (b+1))):∀ (f:Nat) (r:List UInt8) (b:Nat) (acc:List Pt),b<=9->f0<=b+1->r.length<f->yRh r b acc (kT rows f r b acc):=by
 intro f;induction f with
 |zero=>intro r b acc _ _ h;omega
 |succ f ih =>
  intro r b acc hb h0 hf;unfold kT;cases hc:mY r
  case true=>exact⟨[],by simp,List.suffix_refl _,by simp[szL],bA _,hb,λi en rf=>⟨en,rfl⟩,by simp,hc⟩
  simp only[cond_false];have hi:=Gm (rows:=rows) hb (show r≠[]by intro h;rw[h]at hc;cases hc) (λr h=>hrow r b h h0);cases ho:lN rows r b with
  |er e k=>rw[ho]at hi;exact hi
  |ok t r1 b1 =>
   rw[ho]at hi;obtain⟨g1,g2,g3,g4,g5,g6⟩:=hi;have hl:=g1.length_le;have:=ih r1 b1 (acc++[t]) g4 (by omega) (by omega);simp only;cases ho2:kT rows f r1 b1 (acc++[t])with
   |er e k=>rw[ho2]at this;exact⟨this.1,Nat.le_trans this.2 hl⟩
   |ok ts r' b' =>
    rw[ho2]at this;obtain⟨new,k1,k2,k3,k4,k5,k6,k7,k8⟩:=this;refine⟨t::new,by rw[k1];simp,k2.trans g1,by simp only[szL];omega,by omega,k5,Xn.app (zPi.one g5) k6,?_,k8⟩;intro u hu;rcases List.mem_cons.1 hu with rfl|hu
    ·exact g6
    ·exact k7 u hu
theorem yGj{rows:List UInt8->Nat->jL (List (List Pt))}{top:Bool}(f0:Nat)(hrow:∀ r b,b+1<=9->f0<=b+1->uX r (b+1) (rows r (b+1))):∀ (f:Nat) (r:List UInt8) (b:Nat) (acc:List (List Pt)),b<=9->f0<=b+1->r.length<f->(match Bz rows top f r b acc with
  |.ok rs r' b'=>∃ new,rs=acc++new/\r' <:+ r/\iM new+3*r'.length<=3*r.length/\b<=b'/\b'<=9/\Ko new b b'/\new≠[]/\(∀ ts∈new,zMj ts)/\(r'=[]\/∃ r2,r'=41::r2)
  |.er e k=>zPh r e k):=by
 intro f;induction f with
 |zero=>intro r b acc _ _ h;omega
 |succ f ih =>
  intro r b acc hb h0 hf;unfold Bz;have hi:=Bh (rows:=rows) f0 hrow (r.length+1) r b [] hb h0 (by omega);cases ho:kT rows (r.length+1) r b []with
  |er e k=>rw[ho]at hi;exact hi
  |ok ts r2 b2 =>
   rw[ho]at hi;obtain⟨new,k1,k2,k3,k4,k5,k6,k7,k8⟩:=hi;rw[List.nil_append]at k1;subst k1;have hl:=k2.length_le;cases ts with
   |nil =>
    simp only;refine⟨?_,hl⟩;cases top&&[41].isPrefixOf r2<;>exact⟨by simp,by simp⟩
   |cons t ts =>
    simp only;have yPh:zMj (t::ts):=⟨by simp,k7⟩;have hn1:Ko [t::ts] b b2:=k6;cases hp:[124].isPrefixOf r2
    case false =>
     simp only[cond_false];refine⟨[t::ts],rfl,k2,by simp only[iM]at k3 ⊢;omega,k4,k5,hn1,by simp,?_,?_⟩
     ·intro x hx;rw[List.mem_singleton]at hx;subst hx;exact yPh
     ·cases r2 with
      |nil=>exact Or.inl rfl
      |cons d r3 =>
       right;simp only[mY,Bool.or_eq_true,beq_iff_eq]at k8;simp only[List.isPrefixOf,Bool.and_true]at hp;rcases k8 with rfl|rfl
       ·cases hp
       ·exact⟨_,rfl⟩
    simp only[cond_true];have hpl:=jX hp;simp only[List.length_cons,List.length_nil]at hpl;have:=ih (r2.drop 1) b2 (acc++[t::ts]) k5 (by omega) (by rw[List.length_drop];omega);cases ho2:Bz rows top f (r2.drop 1) b2 (acc++[t::ts])with
    |er e k=>rw[ho2]at this;exact⟨this.1,by have:=this.2;rw[List.length_drop]at this;omega⟩
    |ok rs r' b' =>
     rw[ho2]at this;obtain⟨new,j1,j2,j3,j4,j5,j6,j7,j8,j9⟩:=this;have j2l:=j2.length_le;rw[List.length_drop]at j2l j3;refine⟨(t::ts)::new,by rw[j1];simp,(j2.trans (List.drop_suffix _ _)).trans k2,by simp only[iM];omega,by omega,j5,Ko.app hn1 j6,by simp,?_,j9⟩;intro x hx;rcases List.mem_cons.1 hx with rfl|hx
     ·exact yPh
     ·exact j8 x hx
theorem zT:∀ (f:Nat) (top:Bool) (r:List UInt8) (b:Nat),11<=f+b->b<=9->uX r b (mQ f top r b):=by
 intro f;induction f with
 |zero=>intro top r b h1 h2;omega
 |succ f ih =>
  intro top r b h1 hb;have:=yGj (rows:=mQ f false) (top:=top) (11-f) (λr b h2 h3=>ih false r (b+1) (by omega) h2) (r.length+1) r b [] hb (by omega) (by omega);unfold mQ;cases ho:Bz (mQ f false) top (r.length+1) r b []with
  |er e k=>rw[ho]at this;exact this
  |ok rs r' b' =>
   rw[ho]at this;obtain⟨new,j1,j2,j3,j4,j5,j6,j7,j8,j9⟩:=this;rw[List.nil_append]at j1;subst j1;exact⟨j2,j3,j4,j5,j6,j7,j8,j9⟩
theorem zGb(s:List UInt8):(∃ t,wL s=.inl t/\tF t/\(aP t w0).2.2.2=false)\/∃ e k,wL s=.inr (e,k)/\(yVb e\/e=2)/\k<=s.length:=by
 cases s with
 |nil=>exact Or.inl ⟨.empty,rfl,⟨by simp[Pt.sz],⟨rfl,rfl,λh=>by simp[Pt.sz]at h⟩,rfl⟩,rfl⟩
 |cons c s0 =>
  have hg:=zT 11 true (c::s0) 0 (by omega) (by omega);have he:wL (c::s0)=match mQ 11 true (c::s0) 0 with
   |.er e k=>.inr (e,(c::s0).length-k)
   |.ok rs r _ =>
    match r with
    |[]=>bif decide ((dO rs).sz>120)then .inr (2,0)else .inl (dO rs)
    |_=>.inr (41,(c::s0).length-r.length):=rfl
  rw[he];cases ho:mQ 11 true (c::s0) 0 with
  |er e k=>rw[ho]at hg;exact Or.inr ⟨_,_,rfl,Or.inl hg.1,by omega⟩
  |ok rs r b' =>
   rw[ho]at hg;obtain⟨g1,g2,g3,g4,g5,g6,g7,g8⟩:=hg;simp only;cases r with
   |cons d r2=>exact Or.inr ⟨_,_,rfl,Or.inl ⟨by omega,by omega⟩,by omega⟩
   |nil =>
    simp only;by_cases zCw:(dO rs).sz>120
    ·exact Or.inr ⟨2,0,by simp[zCw],Or.inr rfl,by omega⟩
    ·refine Or.inl ⟨dO rs,by simp[zCw],?_⟩;have hne:∀ ts∈rs,ts≠[]:=λts h=>(g7 ts h).1
     have ht:=zIq rs g6 g7;obtain⟨en',h⟩:=g5 true Ii false;have hw:aP (dO rs) w0=(b',true,en',false):=by rw[zRd g6 hne];exact h
     exact⟨⟨by omega,⟨ht.1,ht.2.1,λ_=>ht.2.2⟩,by rw[hw]⟩,by rw[hw]⟩
end Go.Dec
namespace Go.Dec
abbrev Fr:Type:=Int × Int × List Int × List Int × Unit
section
variable {n:Nat}{s r:List UInt8}{b e w:Int}{l:List Nd}
theorem yJm:((List.range 256).all λi=>decide (Go.Lib.indexByte [42,43,63,123] (UInt8.ofNat i)≥0)==gH [UInt8.ofNat i])=true:=by decide +kernel
theorem yNv(c:UInt8)(r:List UInt8):decide (Go.Lib.indexByte [42,43,63,123] c≥0)=gH (c::r):=by
 have:=sZ yJm c.toNat_lt;rw[Nf,beq_iff_eq]at this;exact this
theorem zPj(h:r <:+ s):dH n (s,psn s r,b,e,w,l,())=some (gH r,s,psn s r,b,e,w,l,()):=by
 unfold dH nH;simp only;have hl:=kS h;cases r with
 |nil =>
  rw[aC (by unfold psn;simp)];rfl
 |cons c r1 =>
  simp only[List.length_cons]at hl;rw[aI (by unfold psn;simp only[List.length_cons,decide_eq_true_eq];omega),aB (eT (by unfold psn;omega) (by unfold psn;simp only[List.length_cons];omega))];have hg:aR 0 s (psn s (c::r1))=c:=by have:=Nq h (j:=0) (c:=c) (d:=0) rfl;simpa using this
  rw[hg];simp only[strings_IndexByte,aK,Int.toNat_natCast];rw[show(c.toNat).toUInt8=c from Nf c,yNv c r1]
theorem zYl{k at':Int}{x:List UInt8 × Int × Int × Int × Int × List Nd × Unit}:aV n (k,at',x)=some (false,x.1,x.2.1,x.2.2.1,k,at',x.2.2.2.2.2.1,()):=rfl
theorem zMk{at' k a c mi ma nn:Int}{v:List Int}(hl:l.length<1000000):cO n (k,v,a,c,mi,ma,nn,s,at',b,e,w,l,())=some (((l.length:Nat):Int),s,at',b,e,w,l++[(k,v,a,c,mi,ma,nn,())],()):=by
 unfold cO iJ;simp only;rw[aB (by simp[room];omega)];simp only[List.length_append,List.length_cons,List.length_nil];rw[aW (by omega) (by omega)];congr 2;omega
end
theorem Vd(st0:List Fr)(F:Fr):(st0++[F]).take ((st0++[F]).length-1)=st0:=by simp
theorem Ve(st0:List Fr)(F d:Fr):(st0++[F]).getD ((st0++[F]).length-1) d=F:=by simp
def xH (x:List UInt8):Option Nat:=bif decide (1<=x.length)&&decide (x.length<=3)&&x.all isDigit then some (dZ x) else none
theorem jF{c:UInt8}:isDigit c=true<->48<=c.toNat/\c.toNat<=57:=by simp[isDigit]
theorem xAf:∀ (x:List UInt8) (acc:Nat),x.length<=3->acc<1000000->Go.Lib.parseUint10 acc x=if x.all isDigit=true then .ok (x.foldl (λa c=>a*10+(c.toNat-48)) acc)else .«syntax»
 |[],acc,_,_=>by simp[Go.Lib.parseUint10]
 |[a],acc,_,h=>by
  by_cases ha:48<=a.toNat/\a.toNat<=57
  ·simp only[Go.Lib.parseUint10,if_pos ha,List.all_cons,List.all_nil,jF.2 ha,List.foldl];rw[if_neg (by omega),if_neg (by omega)];rfl
  ·have:isDigit a=false:=by rw[Bool.eq_false_iff];exact λh=>ha (jF.1 h)
   simp[Go.Lib.parseUint10,if_neg ha,this]
 |[a,b],acc,_,h=>by
  by_cases ha:48<=a.toNat/\a.toNat<=57
  ·by_cases hb:48<=b.toNat/\b.toNat<=57
   ·simp only[Go.Lib.parseUint10,if_pos ha,if_pos hb,List.all_cons,List.all_nil,jF.2 ha,jF.2 hb,List.foldl];rw[if_neg (by omega),if_neg (by omega),if_neg (by omega),if_neg (by omega)];rfl
   ·have:isDigit b=false:=by rw[Bool.eq_false_iff];exact λh=>hb (jF.1 h)
    simp only[Go.Lib.parseUint10,if_pos ha,if_neg hb,List.all_cons,this];rw[if_neg (by omega),if_neg (by omega)];simp
  ·have:isDigit a=false:=by rw[Bool.eq_false_iff];exact λh=>ha (jF.1 h)
   simp[Go.Lib.parseUint10,if_neg ha,this]
 |[a,b,c],acc,_,h=>by
  by_cases ha:48<=a.toNat/\a.toNat<=57
  ·by_cases hb:48<=b.toNat/\b.toNat<=57
   ·by_cases hc:48<=c.toNat/\c.toNat<=57
    ·simp only[Go.Lib.parseUint10,if_pos ha,if_pos hb,if_pos hc,List.all_cons,List.all_nil,jF.2 ha,jF.2 hb,jF.2 hc,List.foldl];rw[if_neg (by omega),if_neg (by omega),if_neg (by omega),if_neg (by omega),if_neg (by omega),if_neg (by omega)];rfl
    ·have:isDigit c=false:=by rw[Bool.eq_false_iff];exact λh=>hc (jF.1 h)
     simp only[Go.Lib.parseUint10,if_pos ha,if_pos hb,if_neg hc,List.all_cons,this];rw[if_neg (by omega),if_neg (by omega),if_neg (by omega),if_neg (by omega)];simp
   ·have:isDigit b=false:=by rw[Bool.eq_false_iff];exact λh=>hb (jF.1 h)
    simp only[Go.Lib.parseUint10,if_pos ha,if_neg hb,List.all_cons,this];rw[if_neg (by omega),if_neg (by omega)];simp
  ·have:isDigit a=false:=by rw[Bool.eq_false_iff];exact λh=>ha (jF.1 h)
   simp[Go.Lib.parseUint10,if_neg ha,this]
 |_::_::_::_::_,_,h,_=>by simp at h
theorem yRi{x:List UInt8}(h:x.length<=3)(hd:x.all isDigit=true):dZ x<1000:=by
 have:=zXu hd;have:(10:Nat) ^ x.length<=10 ^ 3:=Nat.pow_le_pow_right (by omega) h;omega
theorem zYm{n:Nat}{x:List UInt8}(hx:x.length<1000000):zP n x=some (zCq (xH x)):=by
 unfold zP Bn;simp only;rw[aB (Nat.ble_eq_true_of_le (by omega))];simp only[aK];cases x with
 |nil=>rfl
 |cons c x1 =>
  by_cases hl:(c::x1).length<=3
  ·by_cases hc:48<=c.toNat/\c.toNat<=57
   ·have ha:Go.Lib.atoiAll (c::x1)=if(c::x1).all isDigit=true then .ok ((dZ (c::x1):Nat):Int)else .«syntax» := by
     rw[Go.Lib.atoiAll_plain _ _ (by omega) (by omega),Go.Lib.parseMag,if_neg (by simp),xAf _ _ hl (by omega)];by_cases hd:(c::x1).all isDigit=true
     ·rw[if_pos hd,if_pos hd];have:=yRi hl hd;simp only[dZ]at this ⊢;simp only[Go.Lib.signless];rw[if_neg (by omega)]
     ·rw[if_neg hd,if_neg hd];rfl
    unfold zKf xH;rw[ha];by_cases hd:(c::x1).all isDigit=true
    ·rw[if_pos hd];simp only[Bool.not_false,Bool.not_true,aZ];rw[aC (by simp only[decide_eq_false_iff_not];omega),aB (eT (by omega) (by simp)),show aR 0 (c::x1) 0=c from rfl,aC (by simp;omega),aB (eT (by omega) (by simp)),aC (by simp;omega),hd];simp only[List.length_cons]at hl ⊢;rw[decide_eq_true (show 1<=x1.length+1 by omega),decide_eq_true hl];rfl
    ·rw[if_neg hd];rw[Bool.not_eq_true]at hd;rw[hd];simp only[Bool.not_true,Bool.not_false,bQ,Bool.and_false,cond_false,zCq]
   ·have hd:(c::x1).all isDigit=false:=by
     rw[List.all_cons,Bool.and_eq_false_iff];left;rw[Bool.eq_false_iff];exact λh=>hc (jF.1 h)
    unfold xH;rw[hd];simp only[Bool.and_false,cond_false,zCq];cases(!(!(zKf (c::x1)).2))
    ·simp only[aZ];rw[aC (by simp only[decide_eq_false_iff_not];omega),aB (eT (by omega) (by simp)),show aR 0 (c::x1) 0=c from rfl];by_cases h1:c.toNat<48
     ·rw[aI (by simp;omega)]
     ·rw[aC (by simp;omega),aB (eT (by omega) (by simp)),aI (by simp;omega)]
    ·simp only[bQ]
  ·unfold xH;rw[decide_eq_false (show ¬ (c::x1).length<=3 by omega)];simp only[Bool.and_false,Bool.false_and,cond_false,zCq];cases(!(!(zKf (c::x1)).2))
   ·simp only[aZ];rw[aI (by simp only[decide_eq_true_eq];omega)]
   ·simp only[bQ]
def upTo (c:UInt8) (r:List UInt8):List UInt8:=r.takeWhile (· != c)
theorem Cy(c:UInt8)(r:List UInt8):upTo c (c::r)=[]:=by simp[upTo]
theorem vF{c d:UInt8}(h:d≠c)(r:List UInt8):upTo c (d::r)=d::upTo c r:=by simp[upTo,h]
theorem yJn(c:UInt8):∀ r:List UInt8,Go.Lib.index r [c]=if c∈r then(((upTo c r).length:Nat):Int)else -1
 |[]=>by rfl
 |d::r=>by
  have ih:=yJn c r;rw[Go.Lib.index];by_cases h:c=d
  ·subst h;rw[if_pos (by simp[List.isPrefixOf]),if_pos (by simp),Cy];rfl
  ·have h1:([c]:List UInt8).isPrefixOf (d::r)=false:=by simp[List.isPrefixOf,h]
   rw[if_neg (by rw[h1];simp),ih,vF (λe=>h e.symm)];by_cases hm:c∈r
   ·simp only[if_pos hm,List.mem_cons,hm,or_true,if_true,List.length_cons];rw[if_neg (by simp)];rfl
   ·simp only[if_neg hm,List.mem_cons,h,hm,or_false,if_false];rfl
theorem zPk(c:UInt8)(r:List UInt8):Go.Lib.cut r [c]=if c∈r then(upTo c r,r.drop ((upTo c r).length+1),true)else(r,[],false):=by
 unfold Go.Lib.cut;rw[yJn];by_cases h:c∈r
 ·rw[if_pos h,if_pos h];have:r.take (upTo c r).length=upTo c r:=by
   unfold upTo;have:=List.takeWhile_append_dropWhile (p:=λx=>x != c) (l:=r)
   conv=>lhs;arg 2;rw[<- this]
   rw[List.take_left]
  simp[this]
 ·rw[if_neg h,if_neg h];rfl
theorem Xo{c:UInt8}{a:List UInt8}(h:c∉a)(r:List UInt8):upTo c (a++r)=a++upTo c r:=by
 induction a with
 |nil=>rfl
 |cons d a ih =>
  rw[List.cons_append,vF (λe=>h (by simp[e])),ih (λe=>h (by simp[e]))];rfl
end Go.Dec
namespace Go.Dec
theorem zRe:∀ (m:Nat) (r:List UInt8),iB m r=m\/r.drop (iB m r)=[]\/∃ c t,r.drop (iB m r)=c::t/\isDigit c=false
 |0,_=>Or.inl rfl
 |m+1,[]=>Or.inr (Or.inl rfl)
 |m+1,c::r=>by
  unfold iB;cases h:isDigit c
  ·exact Or.inr (Or.inr ⟨c,r,rfl,h⟩)
  ·simp only[cond_true];rcases zRe m r with h1|h1|⟨d,t,h1,h2⟩
   ·exact Or.inl (by omega)
   ·exact Or.inr (Or.inl h1)
   ·exact Or.inr (Or.inr ⟨d,t,h1,h2⟩)
theorem zMl(r:List UInt8):(qW r=(none,r)/\(r=[]\/∃ c t,r=c::t/\isDigit c=false)) \/
 ∃ ds r1,r=ds++r1/\qW r=(some (dZ ds),r1)/\1<=ds.length/\ds.length<=3/\ds.all isDigit=true/\(ds.length=3\/r1=[]\/∃ c t,r1=c::t/\isDigit c=false):=by
 have hl:=zPa 3 r;have ha:=zIo 3 r;have hs:=zRe 3 r;have hn:qW r=(bif iB 3 r==0 then none else some (dZ (r.take (iB 3 r))),r.drop (iB 3 r)):=rfl;by_cases h0:iB 3 r=0
 ·left;rw[hn,h0];refine⟨rfl,?_⟩;rw[h0]at hs;rcases hs with h|h|⟨c,t,h,h2⟩
  ·omega
  ·exact Or.inl h
  ·exact Or.inr ⟨c,t,h,h2⟩
 ·right;refine⟨r.take (iB 3 r),r.drop (iB 3 r),(List.take_append_drop _ _).symm,?_,?_,?_,ha,?_⟩
  ·rw[hn,show(iB 3 r==0)=false by simpa using h0];rfl
  ·rw[List.length_take];omega
  ·rw[List.length_take];omega
  ·rw[List.length_take,Nat.min_eq_left hl.2];exact hs
theorem zRf{x:List UInt8}(h:x=[]\/∃ c t,x=c::t/\isDigit c=false):xH x=none:=by
 rcases h with rfl|⟨c,t,rfl,h⟩
 ·rfl
 ·unfold xH;simp[h]
theorem zCx{ds:List UInt8}(h1:1<=ds.length)(h3:ds.length<=3)(ha:ds.all isDigit=true):xH ds=some (dZ ds):=by
 unfold xH;rw[ha,decide_eq_true h1,decide_eq_true h3];rfl
theorem zRg{ds:List UInt8}{c:UInt8}{t:List UInt8}(h:ds.length=3\/isDigit c=false):xH (ds++c::t)=none:=by
 unfold xH;rcases h with h|h
 ·rw[decide_eq_false (show ¬ (ds++c::t).length<=3 by simp;omega)];simp
 ·rw[show(ds++c::t).all isDigit=false by simp[h]];simp
theorem zYn{ds:List UInt8}(ha:ds.all isDigit=true){c:UInt8}(hc:isDigit c=false):c∉ds:=by
 intro h;have:=List.all_eq_true.1 ha c h;rw[hc]at this;cases this
theorem yNw{r:List UInt8}{x:Int × Int × List UInt8}(h:oW r=some x):125∈r:=by
 have hpre:∀ {u:List UInt8},u <:+ r->[125].isPrefixOf u=true->125∈r:=by
  intro u hu hp;obtain⟨t,rfl⟩:=yVa hp;exact hu.subset (by simp)
 unfold oW at h;have n1:=Ik r;cases hlo:qW r with
 |mk l1 r1 =>
  rw[hlo]at n1 h;cases l1 with
  |none=>simp at h
  |some l1 =>
   simp only at h n1;cases hc:[44].isPrefixOf r1<;>rw[hc]at h<;>simp only[cond_true,cond_false]at h
   ·cases hb:[125].isPrefixOf r1 with
    |false=>rw[hb]at h;simp at h
    |true=>exact hpre n1 hb
   ·have n2:=Ik (r1.drop 1);cases hhi:qW (r1.drop 1)with
    |mk h1 r3 =>
     rw[hhi]at n2 h;simp only at n2;have n3:r3 <:+ r:=n2.trans ((List.drop_suffix _ _).trans n1);cases hb:[125].isPrefixOf r3 with
     |false=>cases h1<;>simp[hb]at h
     |true=>exact hpre n3 hb
def Jk(x:List UInt8):Int × Int × Bool :=
 match xH (Go.Lib.cut x [44]).1 with
 |none=>(0,0,false)
 |some lo =>
  bif (Go.Lib.cut x [44]).2.2 then
   match xH (Go.Lib.cut x [44]).2.1 with
   |none=>bif (Go.Lib.cut x [44]).2.1.isEmpty&&decide (lo<=255)then((lo:Int),-1,true)else(0,0,false)
   |some hi=>bif decide (lo<=255)&&decide (hi<=255)&&decide (lo<=hi)&&decide (1<=hi)then((lo:Int),(hi:Int),true)else(0,0,false)
  else bif decide (lo<=255)&&decide (1<=lo)then((lo:Int),(lo:Int),true)else(0,0,false)
theorem yCf(c:UInt8)(x:List UInt8):(Go.Lib.cut x [c]).1.length<=x.length/\(Go.Lib.cut x [c]).2.1.length<=x.length:=by
 rw[zPk];by_cases h:c∈x
 ·rw[if_pos h];refine⟨?_,by simp⟩;exact(List.takeWhile_sublist _).length_le
 ·rw[if_neg h];simp
theorem yCg{lo hi:Nat}(h1:1<=hi)(h:lo<=hi):¬ ((hi:Int)<if(1:Int)>(lo:Int)then(1:Int)else(lo:Int)):=by split<;>omega
theorem zIs{lo hi:Nat}(h1:¬ 1<=hi\/¬ lo<=hi):(hi:Int)<if(1:Int)>(lo:Int)then(1:Int)else(lo:Int):=by split<;>omega
theorem yVn{n:Nat}{x:List UInt8}(hx:x.length<1000000):Pj n x=some (Jk x):=by
 unfold Pj strings_Cut Jk;simp only;rw[aB (by simp;omega)];obtain⟨h1,h2⟩:=yCf 44 x;simp only[aK];generalize Go.Lib.cut x [44]=y at h1 h2 ⊢;obtain⟨a,b,two⟩:=y;simp only at h1 h2 ⊢;rw[zYm (by omega)];simp only[aK];cases two
 ·simp only[aZ,cond_false];cases xH a with
  |none=>simp only[zCq];rw[aI (by rfl)]
  |some lo =>
   simp only[zCq];rw[aC (zTp lo)];by_cases h5:lo<=255
   ·rw[aC (by simp;omega),aC (by simp;omega),aI (yPg lo)];by_cases h6:1<=lo
    ·refine(aC (decide_eq_false (yCg h6 (bA _))) _ _).trans ?_;rw[decide_eq_true h5,decide_eq_true h6];rfl
    ·refine(aI (decide_eq_true (zIs (Or.inl h6))) _ _).trans ?_;rw[decide_eq_false h6,Bool.and_false];rfl
   ·rw[aI (by simp;omega),decide_eq_false h5];rfl
 ·simp only[bQ,cond_true];rw[zYm (by omega)];simp only[aK];cases xH a with
  |none=>simp only[zCq];rw[aI (by rfl)]
  |some lo =>
   simp only[zCq];rw[aC (zTp lo)];cases xH b with
   |none =>
    simp only;rw[aI (by rfl)];have e1:((-1:Int) != -1)=false:=rfl;have e2:(b==[])=b.isEmpty:=by cases b<;>rfl
    rw[e2,e1];cases b.isEmpty
    ·simp only[Bool.not_false,bQ,Bool.false_and,cond_false]
    ·simp only[Bool.not_true,aZ,Bool.true_and];by_cases h5:lo<=255
     ·rw[aC (by simp;omega),aC (by simp),decide_eq_true h5];rfl
     ·rw[aI (by simp;omega),decide_eq_false h5];rfl
   |some hi =>
    simp only;rw[aC (zTp hi)];by_cases h5:lo<=255
    ·rw[aC (by simp;omega),decide_eq_true h5];by_cases h6:hi<=255
     ·rw[aC (by simp;omega),aI (yPg hi),decide_eq_true h6];by_cases h7:lo<=hi
      ·rw[decide_eq_true h7];by_cases h8:1<=hi
       ·refine(aC (decide_eq_false (yCg h8 h7)) _ _).trans ?_;rw[decide_eq_true h8];rfl
       ·refine(aI (decide_eq_true (zIs (Or.inl h8))) _ _).trans ?_;rw[decide_eq_false h8];rfl
      ·refine(aI (decide_eq_true (zIs (Or.inr h7))) _ _).trans ?_;rw[decide_eq_false h7];rfl
     ·rw[aI (by simp;omega),decide_eq_false h6];rfl
    ·rw[aI (by simp;omega),decide_eq_false h5];rfl
theorem yPi{a t:List UInt8}(h:(44:UInt8)∉a):Go.Lib.cut (a++44::t) [44]=(a,t,true):=by
 rw[zPk,if_pos (by simp),Xo h,Cy,List.append_nil];rw[List.drop_append,List.drop_eq_nil_of_le (by omega),show a.length+1-a.length=1 by omega];rfl
theorem yVo{a:List UInt8}(h:(44:UInt8)∉a):Go.Lib.cut a [44]=(a,[],false):=by rw[zPk,if_neg h]
theorem yCh{a:List UInt8}(h:(44:UInt8)∉a){c:UInt8}(hc:c≠44)(t:List UInt8):∃ t',(Go.Lib.cut (a++c::t) [44]).1=a++c::t':=by
 rw[zPk];by_cases hm:44∈a++c::t
 ·rw[if_pos hm,Xo h,vF hc];exact⟨_,rfl⟩
 ·rw[if_neg hm];exact⟨_,rfl⟩
theorem yJo(r:List UInt8):match oW r with
 |none=>(Go.Lib.cut r [125]).2.2=false\/Jk (Go.Lib.cut r [125]).1=(0,0,false)
 |some (lo,hi,r2)=>(Go.Lib.cut r [125]).2.2=true/\Jk (Go.Lib.cut r [125]).1=(lo,hi,true)/\r2=r.drop ((Go.Lib.cut r [125]).1.length+1)/\(Go.Lib.cut r [125]).1.length+1<=r.length:=by
 by_cases hm:125∈r
 case neg =>
  cases ht:oW r with
  |none=>left;rw[zPk,if_neg hm]
  |some x=>exact absurd (yNw ht) hm
 rw[zPk,if_pos hm];have yVp:isDigit 125=false:=by decide
 have d44:isDigit 44=false:=by decide
 rcases zMl r with ⟨h1,h2⟩|⟨ds,r1,rfl,h1,k1,k3,ha,hst⟩
 ·have:oW r=none:=by unfold oW;rw[h1]
  rw[this];right;unfold Jk;have:xH (Go.Lib.cut (upTo 125 r) [44]).1=none:=by
   refine zRf ?_;rcases h2 with rfl|⟨c,t,rfl,hc⟩
   ·exact Or.inl rfl
   ·by_cases zPl:c=125
    ·subst zPl;rw[Cy];exact Or.inl rfl
    ·rw[vF zPl];by_cases h44:c=44
     ·subst h44;have:=yPi (a:=[]) (t:=upTo 125 t) (by simp);rw[List.nil_append]at this;rw[this];exact Or.inl rfl
     ·obtain⟨t',h⟩:=yCh (a:=[]) (by simp) h44 (upTo 125 t);rw[List.nil_append]at h;rw[h];exact Or.inr ⟨c,t',rfl,hc⟩
  rw[this]
 ·have n125:=zYn ha yVp;have n44:=zYn ha d44;rw[Xo n125];cases r1 with
  |nil=>exact absurd hm (by simpa using n125)
  |cons c t =>
   have hcc:ds.length=3\/isDigit c=false:=by
    rcases hst with h|h|⟨c',t',h,h2⟩
    ·exact Or.inl h
    ·cases h
    ·obtain⟨rfl,rfl⟩:=List.cons.inj h;exact Or.inr h2
   have hdr:∀ x:List UInt8,(ds++x).drop (ds.length+1)=x.drop 1:=λx=>by
    rw[List.drop_append,List.drop_eq_nil_of_le (by omega),show ds.length+1-ds.length=1 by omega];rfl
   by_cases zPl:c=125
   ·subst zPl;rw[Cy,List.append_nil];have hs:Jk ds=bif decide (dZ ds<=255)&&decide (1<=dZ ds)then((dZ ds:Int),(dZ ds:Int),true)else(0,0,false):=by
     unfold Jk;rw[yVo n44];simp only;rw[zCx k1 k3 ha];rfl
    have ht:oW (ds++125::t)=bif decide (dZ ds<=255)&&decide (1<=dZ ds)then some ((dZ ds:Int),(dZ ds:Int),t)else none:=by
     unfold oW;rw[h1];rfl
    rw[ht,hs];cases decide (dZ ds<=255)&&decide (1<=dZ ds)
    ·exact Or.inr rfl
    ·exact⟨rfl,rfl,by rw[hdr];rfl,by simp⟩
   ·rw[vF zPl];by_cases h44:c=44
    ·subst h44;have hsv:∀ q:List UInt8,Jk (ds++44::q)=match xH q with
      |none=>bif q.isEmpty&&decide (dZ ds<=255)then((dZ ds:Int),-1,true)else(0,0,false)
      |some hi=>bif decide (dZ ds<=255)&&decide (hi<=255)&&decide (dZ ds<=hi)&&decide (1<=hi)then((dZ ds:Int),(hi:Int),true)else(0,0,false):=λq=>by
      unfold Jk;rw[yPi n44];simp only;rw[zCx k1 k3 ha];rfl
     rw[hsv];have htv:oW (ds++44::t)=match qW t with
      |(none,r2)=>bif [125].isPrefixOf r2&&decide (dZ ds<=255)then some ((dZ ds:Int),-1,r2.drop 1)else none
      |(some hi,r2)=>bif [125].isPrefixOf r2&&decide (dZ ds<=255)&&decide (hi<=255)&&decide (dZ ds<=hi)&&decide (1<=hi)then some ((dZ ds:Int),(hi:Int),r2.drop 1)else none:=by
      unfold oW;rw[h1];rfl
     rw[htv];have yVq:∀ x y:List UInt8,(ds++44::(x++y)).drop ((ds++44::x).length+1)=y.drop 1:=λx y=>by
      rw[show ds++44::(x++y)=(ds++44::x)++y by simp,List.drop_append,List.drop_eq_nil_of_le (by omega),show(ds++44::x).length+1-(ds++44::x).length=1 by omega];rfl
     rcases zMl t with ⟨g1,g2⟩|⟨es,r2,rfl,g1,j1,j3,hb,yNx⟩
     ·rw[g1];simp only;rw[show xH (upTo 125 t)=none by
       refine zRf ?_;rcases g2 with rfl|⟨d,t',rfl,hd⟩
       ·exact Or.inl rfl
       ·by_cases h:d=125
        ·subst h;rw[Cy];exact Or.inl rfl
        ·rw[vF h];exact Or.inr ⟨d,_,rfl,hd⟩]
      simp only;rcases g2 with rfl|⟨d,t',rfl,hd⟩
      ·exact absurd hm (by simp;exact n125)
      ·by_cases h:d=125
       ·subst h;rw[Cy];simp only[List.isEmpty_nil,List.isPrefixOf,beq_self_eq_true,Bool.and_true,Bool.true_and];cases decide (dZ ds<=255)
        ·exact Or.inr rfl
        ·refine⟨trivial,rfl,?_,by simp only[List.length_append,List.length_cons,List.length_nil];omega⟩;have:=yVq [] (125::t');rw[List.nil_append]at this;rw[this]
       ·rw[vF h];have e:([125]:List UInt8).isPrefixOf (d::t')=false:=by simp[List.isPrefixOf];exact λhh=>h hh.symm
        rw[e];simp only[Bool.false_and,cond_false,List.isEmpty_cons];right;trivial
     ·have yVr:=zYn hb yVp;rw[g1,Xo yVr];simp only;cases r2 with
      |nil=>exact absurd hm (by simp;exact⟨n125,yVr⟩)
      |cons d t' =>
       have hdd:es.length=3\/isDigit d=false:=by
        rcases yNx with h|h|⟨c',t',h,h2⟩
        ·exact Or.inl h
        ·cases h
        ·obtain⟨rfl,rfl⟩:=List.cons.inj h;exact Or.inr h2
       by_cases h:d=125
       ·subst h;rw[Cy,List.append_nil,zCx j1 j3 hb];simp only[List.isPrefixOf,beq_self_eq_true,Bool.and_true,Bool.true_and];cases decide (dZ ds<=255)&&decide (dZ es<=255)&&decide (dZ ds<=dZ es)&&decide (1<=dZ es)
        ·exact Or.inr rfl
        ·refine⟨trivial,rfl,?_,by simp only[List.length_append,List.length_cons];omega⟩;rw[yVq]
       ·rw[vF h,zRg hdd];have e:([125]:List UInt8).isPrefixOf (d::t')=false:=by simp[List.isPrefixOf];exact λhh=>h hh.symm
        rw[e];simp only[Bool.false_and,cond_false];right;have:(es++d::upTo 125 t').isEmpty=false:=by cases es<;>rfl
        rw[this];rfl
    ·have ht:oW (ds++c::t)=none:=by
      unfold oW;rw[h1];have e1:([44]:List UInt8).isPrefixOf (c::t)=false:=by simp[List.isPrefixOf];exact λhh=>h44 hh.symm
      have e2:([125]:List UInt8).isPrefixOf (c::t)=false:=by simp[List.isPrefixOf];exact λhh=>zPl hh.symm
      simp only[e1,e2,cond_false,Bool.false_and]
     rw[ht];right;unfold Jk;obtain⟨t',h⟩:=yCh n44 h44 (upTo 125 t);simp only;rw[h,zRg hcc]
end Go.Dec
namespace Go.Dec
def yGk (st:List Fr) (top:Int) (x:Er9):Option (Bool×Er0) :=chk (Nat.ble 1 st.length) (chk (Nat.ble 1 ((st.take (st.length - 1)).length+1)) (chk (Nat.ble 1 ((st.take (st.length - 1)).length+1)) (chk (decide (((st.take (st.length - 1)).length+1) - 1 = (st.take (st.length - 1)).length)) (chk (Nat.ble (((st.getD (st.length - 1) (0,0,[],[],())).2.2.2.1.length+([top]:List (Int)).length) * 8) room) (chk (decide (((st.take (st.length - 1)).length+1) - 1 = (st.take (st.length - 1)).length)) (some (true,x.1,x.2.1,x.2.2.1,x.2.2.2.1,x.2.2.2.2.1,x.2.2.2.2.2.1,(st.take (st.length - 1))++[((st.getD (st.length - 1) (0,0,[],[],())).1,(st.getD (st.length - 1) (0,0,[],[],())).2.1,(st.getD (st.length - 1) (0,0,[],[],())).2.2.1,(st.getD (st.length - 1) (0,0,[],[],())).2.2.2.1++[top],())],())))))))
def zYo (F:Fr) (top:Int):Fr:=(F.1,F.2.1,F.2.2.1,F.2.2.2.1++[top],())
theorem zYp{st0:List Fr}{F:Fr}{top:Int}{x:Er9}(hF:F.2.2.2.1.length<1000000):yGk (st0++[F]) top x=some (true,x.1,x.2.1,x.2.2.1,x.2.2.2.1,x.2.2.2.2.1,x.2.2.2.2.2.1,st0++[zYo F top],()):=by
 unfold yGk;rw[Vd,Ve];rw[aB (Nat.ble_eq_true_of_le (by simp)),aB (Nat.ble_eq_true_of_le (by omega)),aB (Nat.ble_eq_true_of_le (by omega)),aB (decide_eq_true (by omega)),aB (Nat.ble_eq_true_of_le (by simp only[List.length_cons,List.length_nil,room];omega)),aB (decide_eq_true (by omega))];rfl
def EOK(s:List UInt8)(l:List Nd)(st0:List Fr)(F:Fr)(o:jL Pt)(e:Option (Bool × Er0)):Prop:=match o with
 |.ok t r b=>e=some (true,s,psn s r,(b:Int),0,0,l++t.enc l.length,st0++[zYo F (t.top l.length)],())
 |.er c k=>∃ (a b':Int) (l':List Nd) (st':List Fr),e=some (false,s,a,b',(c:Int),((s.length-k:Nat):Int),l',st',())
section
variable {n:Nat}{s r:List UInt8}{b:Nat}{l:List Nd}{st0:List Fr}{F:Fr}
theorem zTr{t:Pt}{lo hi:Int}(h:r <:+ s)(hl:l.length+t.sz<900000)(hF:F.2.2.2.1.length<1000000):EOK s l st0 F (Qg t lo hi r b) (
 ob (cO n (6,[0,0,0,0],t.top l.length,0,lo,hi,0,s,psn s r,(b:Int),0,0,l++t.enc l.length,())) λy13 =>
 ob (dH n (y13.2)) λy14 =>
 br y14.1 (
  ob (aV n (43,y14.2.2.1,y14.2)) λy15 =>
  some (y15.1,y15.2.1,y15.2.2.1,y15.2.2.2.1,y15.2.2.2.2.1,y15.2.2.2.2.2.1,y15.2.2.2.2.2.2.1,st0++[F],())) (
  yGk (st0++[F]) y13.1 y14.2)):=by
 rw[zMk (by rw[List.length_append,Pt.bX];omega)];simp only[aK];rw[zPj h];simp only[aK];unfold Qg;cases gH r
 ·simp only[aZ,cond_false,EOK];rw[zYp hF];simp only[Pt.enc,Pt.top,Pt.sz,List.length_append,Pt.bX,List.append_assoc];have:((l.length+t.sz:Nat):Int)=((l.length+(t.sz+1):Nat):Int)-1:=by omega
  rw[this]
 ·simp only[bQ,cond_true,zYl,aK];exact⟨_,_,_,_,rfl⟩
theorem yJp{t:Pt}(h:r <:+ s)(hs:s.length<1000000)(hl:l.length+t.sz<900000)(hF:F.2.2.2.1.length<1000000):EOK s l st0 F (pK t r b) (gW n (t.top l.length,s,psn s r,(b:Int),0,0,l++t.enc l.length,st0++[F],())):=by
 unfold gW;simp only;rw[zPj h];simp only[aK];cases ha:gH r
 ·rw[Gl ha];simp only[Bool.not_false,bQ,EOK];exact zYp (x:=(s,psn s r,(b:Int),0,0,l++t.enc l.length,())) (top:=t.top l.length) hF
 simp only[Bool.not_true,aZ];cases r with
 |nil=>cases ha
 |cons c r1 =>
  have hl1:=kS h;simp only[List.length_cons]at hl1;have hg:aR 0 s (psn s (c::r1))=c:=by have:=Nq h (j:=0) (c:=c) (d:=0) rfl;simpa using this
  have hs1:r1 <:+ s:=(List.suffix_cons c r1).trans h;have hw:IntKind.wrap .i64 (psn s (c::r1)+1)=psn s r1:=kF h hs (k:=1) (by simp);rw[aB (eT (by unfold psn;omega) (by unfold psn;simp only[List.length_cons];omega)),hg,hw];unfold pK;simp only[gH,Bool.or_eq_true,beq_iff_eq]at ha;by_cases h43:c=43
  ·subst h43;rw[aI (by rfl)];exact zTr hs1 hl hF
  rw[aC (by rw[beq_eq_false_iff_ne];intro e;exact h43 (UInt8.toNat_inj.1 (by simpa using Int.ofNat_inj.1 e)))];have n43:(c==43)=false:=by simpa using h43
  by_cases h63:c=63
  ·subst h63;rw[aI (by rfl)];exact zTr hs1 hl hF
  rw[aC (by rw[beq_eq_false_iff_ne];intro e;exact h63 (UInt8.toNat_inj.1 (by simpa using Int.ofNat_inj.1 e)))];have n63:(c==63)=false:=by simpa using h63
  by_cases yNy:c=123
  ·subst yNy;rw[aI (by rfl),aB (zXs hs1),Uz,Qd hs1];have hc:=yJo r1;unfold strings_Cut;rw[aB (by simp;omega)];simp only[aK];rw[yVn (by have:=(yCf 125 r1).1;omega)];simp only[aK];have e42:((123:UInt8)==42)=false:=rfl;have e43:((123:UInt8)==43)=false:=rfl;have e63:((123:UInt8)==63)=false:=rfl;have yNz:((123:UInt8)==123)=true:=rfl;simp only[e42,e43,e63,yNz,cond_false,cond_true];cases ht:oW r1 with
   |none =>
    rw[ht]at hc;simp only at hc ⊢;have Xp:∀ x:Er0,EOK s l st0 F (.er 43 (r1.length+1)) (ob (aV n (43,psn s (123::r1),s,psn s r1,(b:Int),0,0,l++t.enc l.length,())) λy23=>some (y23.1,y23.2.1,y23.2.2.1,y23.2.2.2.1,y23.2.2.2.2.1,y23.2.2.2.2.2.1,y23.2.2.2.2.2.2.1,st0++[F],())):=λ_=>⟨_,_,_,_,rfl⟩
    rcases hc with hc|hc
    ·rw[aI (by rw[hc];rfl)];exact Xp ([],0,0,0,0,[],[],())
    ·rw[hc];cases(Go.Lib.cut r1 [125]).2.2
     ·rw[aI (by rfl)];exact Xp ([],0,0,0,0,[],[],())
     ·rw[aC (by rfl),aI (by rfl)];exact Xp ([],0,0,0,0,[],[],())
   |some x =>
    obtain⟨lo,hi,r2⟩:=x;rw[ht]at hc;simp only at hc ⊢;obtain⟨c1,c2,c3,c4⟩:=hc;rw[c1,c2];simp only[Bool.not_true,aZ];have hk:IntKind.wrap .i64 (((Go.Lib.cut r1 [125]).1.length:Int)+1)=(((Go.Lib.cut r1 [125]).1.length+1:Nat):Int):=aW (by omega) (by omega);rw[hk,kF hs1 hs c4,<- c3];exact zTr (by rw[c3];exact zCp hs1 _) hl hF
  ·rw[aC (by rw[beq_eq_false_iff_ne];intro e;exact yNy (UInt8.toNat_inj.1 (by simpa using Int.ofNat_inj.1 e)))];have h42:c=42:=by
    rcases ha with ((ha|ha)|ha)|ha
    ·exact ha
    ·exact absurd ha h43
    ·exact absurd ha h63
    ·exact absurd ha yNy
   subst h42;exact zTr hs1 hl hF
end
end Go.Dec
namespace Go.Dec
theorem Rt{α:Type}(x:Option α):(ob x λy=>some y)=x:=by cases x<;>rfl
theorem neI{c k:UInt8}(h:c≠k):((c.toNat:Int)==(k.toNat:Int))=false:=by
 rw[beq_eq_false_iff_ne];intro e;exact h (UInt8.toNat_inj.1 (Int.ofNat_inj.1 e))
abbrev eSt(s r:List UInt8)(b:Nat)(l:List Nd)(st:List Fr):Er0:=(s,psn s r,(b:Int),0,0,l,st,())
def zU(s:List UInt8)(c k:Nat)(e:Option (Bool × Er0)):Prop:=∃ (a b':Int) (l':List Nd) (st':List Fr),e=some (false,s,a,b',(c:Int),((s.length-k:Nat):Int),l',st',())
section
variable {n:Nat}{s r:List UInt8}{b:Nat}{l:List Nd}{st0:List Fr}{F:Fr}{rows:List UInt8->Nat->jL (List (List Pt))}
theorem zYq{t:Pt}{nd:Nd}(ht:t.enc l.length=[nd])(hz:t.sz=1)(h:r <:+ s)(hs:s.length<1000000)(hl:l.length<800000)(hF:F.2.2.2.1.length<1000000):EOK s l st0 F (pK t r b) (gW n (((l.length:Nat):Int),s,psn s r,(b:Int),0,0,l++[nd],st0++[F],())):=by
 have:=yJp (n:=n) (b:=b) (l:=l) (st0:=st0) (F:=F) (t:=t) h hs (by omega) hF;rw[ht,show t.top l.length=((l.length:Nat):Int)by unfold Pt.top;rw[hz];omega]at this;exact this
theorem Vf{p:Nat->Bool}(h:r <:+ s)(hs:s.length<1000000)(hl:l.length<800000)(hF:F.2.2.2.1.length<1000000):EOK s l st0 F (pK (.bytes p) r b) (fT n (wd p,s,psn s r,(b:Int),0,0,l,st0++[F],())):=by
 unfold fT;simp only;rw[zMk (by omega)];simp only[aK,Rt];exact zYq rfl rfl h hs hl hF
theorem Jl{c:UInt8}{r1:List UInt8}(h:c::r1 <:+ s)(hs:s.length<1000000):inB (psn s (c::r1)) s.length=true/\aR 0 s (psn s (c::r1))=c/\r1 <:+ s/\IntKind.wrap .i64 (psn s (c::r1)+1)=psn s r1/\decide (psn s (c::r1)<(s.length:Int))=true:=by
 have hl:=kS h;simp only[List.length_cons]at hl;refine⟨eT (by unfold psn;omega) (by unfold psn;simp only[List.length_cons];omega),?_,(List.suffix_cons c r1).trans h,kF h hs (k:=1) (by simp),decide_eq_true (by unfold psn;simp only[List.length_cons];omega)⟩;have:=Nq h (j:=0) (c:=c) (d:=0) rfl;simpa using this
theorem zYr{c:UInt8}{r1:List UInt8}(hc:c=94\/c=36)(h:c::r1 <:+ s)(hs:s.length<1000000)(hl:l.length<800000)(hF:F.2.2.2.1.length<1000000):EOK s l st0 F (lN rows (c::r1) b) (kD n (s,psn s (c::r1),(b:Int),0,0,l,st0++[F],())):=by
 obtain⟨h1,h2,h3,h4,_⟩:=Jl h hs;unfold kD;simp only;rw[aB h1,h2,h4,zPj h3];simp only[aK];unfold lN Bw;simp only;rcases hc with rfl|rfl
 ·rw[aC (by rfl)];simp only[show((94:UInt8)==94)=true from rfl,cond_true];cases ha:gH r1
  ·simp only[aZ,cond_false];rw[zMk (by omega)];simp only[aK,Rt];exact zYq rfl rfl h3 hs hl hF
  ·exact⟨_,_,_,_,rfl⟩
 ·rw[aI (by rfl)];simp only[show((36:UInt8)==94)=false from rfl,show((36:UInt8)==36)=true from rfl,cond_true,cond_false];cases ha:gH r1
  ·simp only[aZ,cond_false];rw[zMk (by omega)];simp only[aK,Rt];exact zYq rfl rfl h3 hs hl hF
  ·exact⟨_,_,_,_,rfl⟩
theorem zEj{c:UInt8}{r1:List UInt8}(hc:gH (c::r1)=true):EOK s l st0 F (lN rows (c::r1) b) (jO n (s,psn s (c::r1),(b:Int),0,0,l,st0++[F],())):=by
 unfold lN Bw;simp only;have e1:(c==94)=false:=by
  rw[beq_eq_false_iff_ne];rintro rfl;simp[gH]at hc
 have e2:(c==36)=false:=by
  rw[beq_eq_false_iff_ne];rintro rfl;simp[gH]at hc
 rw[e1,e2,hc];exact⟨_,_,_,_,rfl⟩
theorem yXp{r1:List UInt8}(hn:5<=n)(h:46::r1 <:+ s)(hs:s.length<1000000)(hl:l.length<800000)(hF:F.2.2.2.1.length<1000000):EOK s l st0 F (lN rows (46::r1) b) (qI n (s,psn s (46::r1),(b:Int),0,0,l,st0++[F],())):=by
 obtain⟨h1,h2,h3,h4,_⟩:=Jl h hs;unfold qI;simp only;rw[h4,<- rX,zMd hn];simp only[aK,Rt];exact Vf h3 hs hl hF
theorem yVs{r1:List UInt8}(hn:s.length+500<=n)(h:91::r1 <:+ s)(hs:s.length<900000)(hl:l.length<800000)(hF:F.2.2.2.1.length<1000000):EOK s l st0 F (lN rows (91::r1) b) (oI n (s,psn s (91::r1),(b:Int),0,0,l,st0++[F],())):=by
 have hle:=kS h;unfold oI;simp only;rw[aB (zXs h),Uz,Qd h,zOz (by omega) (by omega) (by omega)];simp only[aK];unfold lN Bw;simp only[show((91:UInt8)==94)=false from rfl,show((91:UInt8)==36)=false from rfl,show gH (91::r1)=false from rfl,show((91:UInt8)==46)=false from rfl,show((91:UInt8)==91)=true from rfl,cond_true,cond_false];cases hb:Gi (91::r1)with
 |none =>
  simp only[yNm];rw[aI (by rfl)];exact⟨_,_,_,_,rfl⟩
 |some x =>
  obtain⟨p,k⟩:=x;have hk:=zIm hb;simp only[yNm];rw[aC (by rfl),kF h (by omega) hk.2];simp only[Rt];exact Vf (zCp h k) (by omega) hl hF
theorem yGl:((List.range 256).all λi=>decide (Go.Lib.indexByte vE (UInt8.ofNat i)≥0)==vE.contains (UInt8.ofNat i))=true:=by decide +kernel
theorem yJq{r1:List UInt8}(hn:300<=n)(h:92::r1 <:+ s)(hs:s.length<900000)(hl:l.length<800000)(hF:F.2.2.2.1.length<1000000):EOK s l st0 F (lN rows (92::r1) b) (lI n (s,psn s (92::r1),(b:Int),0,0,l,st0++[F],())):=by
 obtain⟨h1,h2,h3,h4,_⟩:=Jl h (by omega);have hle:=kS h;unfold lI;simp only;rw[h4,Ij h3];unfold lN Bw;simp only[show((92:UInt8)==94)=false from rfl,show((92:UInt8)==36)=false from rfl,show gH (92::r1)=false from rfl,show((92:UInt8)==46)=false from rfl,show((92:UInt8)==91)=false from rfl,show((92:UInt8)==40)=false from rfl,show((92:UInt8)==92)=true from rfl,cond_true,cond_false];cases r1 with
 |nil=>exact⟨_,_,_,_,rfl⟩
 |cons d r2 =>
  simp only[List.isEmpty_cons,aZ];obtain⟨g1,g2,g3,_,_⟩:=Jl h3 (by omega);have hw:IntKind.wrap .i64 (psn s (92::d::r2)+2)=psn s r2:=kF h (by omega) (k:=2) (by simp);rw[aB g1,g2,hw];by_cases zIt:d=110
  ·subst zIt;rw[aI (by rfl),zCh _ (by simp;omega) (by simp),yJi];simp only[show((110:UInt8)==110)=true from rfl,cond_true,aK,Rt];exact Vf g3 (by omega) hl hF
  rw[aC (show((d.toNat:Int)==110)=false from neI (k:=110) zIt),show(d==110)=false by simpa using zIt];simp only[cond_false,strings_IndexByte,aK];have hi:=sZ yGl d.toNat_lt;rw[Nf,beq_iff_eq]at hi;rw[show((d.toNat:Int)).toNat.toUInt8=d from Nf d];have hi':decide (Go.Lib.indexByte [46,91,92,40,41,42,43,63,123,125,124,94,36,47] d≥0)=vE.contains d:=hi;rw[hi'];cases vE.contains d
  ·simp only[aZ,cond_false];by_cases h1:49<=d.toNat
   ·rw[aI (by simp;omega)];by_cases h2:d.toNat<=57
    ·rw[aI (by simp;omega),decide_eq_true h1,decide_eq_true h2];exact⟨_,_,_,_,rfl⟩
    ·rw[aC (by simp;omega),decide_eq_false h2,Bool.and_false];exact⟨_,_,_,_,rfl⟩
   ·rw[aC (by simp;omega),decide_eq_false h1];exact⟨_,_,_,_,rfl⟩
  ·simp only[bQ,cond_true];rw[Gh hn d.toNat_lt d.toNat_lt,yVc];simp only[aK,Rt];exact Vf g3 (by omega) hl hF
def GOK(n:Nat)(s:List UInt8)(l:List Nd)(st0:List Fr)(F:Fr)(o:jL Pt)(m k0:Nat)(e:Option (Bool × Er0)):Prop:=match o with
 |.ok t r b=>∃ m',m+r.length<=m'+k0/\e=fix (aJ n) m' (eSt s r b (l++t.enc l.length) (st0++[zYo F (t.top l.length)]))
 |.er c k=>zU s c k e
theorem yT{o:jL Pt}{e:Option (Bool × Er0)}{m k0:Nat}(h:EOK s l st0 F o e)(hk:∀ t r b,o=.ok t r b->r.length+1<=k0):GOK n s l st0 F o (m+1) k0 (ob e λy=>br (!y.1) (some (false,y.2)) (fix (aJ n) m y.2)):=by
 cases o with
 |ok t r b =>
  simp only[EOK]at h;rw[h];refine⟨m,by have:=hk t r b rfl;omega,?_⟩;simp only[aK,Bool.not_true,aZ]
 |er c k =>
  obtain⟨a,b',l',st',h⟩:=h;rw[h];exact⟨a,b',l',st',rfl⟩
theorem yJr{m:Nat}{c:UInt8}{r1:List UInt8}(hn:s.length+500<=n)(h:c::r1 <:+ s)(hs:s.length<900000)(hl:l.length<800000)(hF:F.2.2.2.1.length<1000000)(h40:c≠40)(h41:c≠41)(xAg:c≠124)(hlen:∀ t r b',lN rows (c::r1) b=.ok t r b'->r.length+1<=r1.length+1):GOK n s l st0 F (lN rows (c::r1) b) (m+1) (r1.length+1) (fix (aJ n) (m+1) (eSt s (c::r1) b l (st0++[F]))):=by
 obtain⟨h1,h2,h3,h4,h5⟩:=Jl h (by omega);rw[bI (by omega),Nat.add_sub_cancel];unfold aJ;simp only;rw[aI h5,aB h1,h2];by_cases k94:c=94
 ·subst k94;exact yT (zYr (Or.inl rfl) h (by omega) hl hF) hlen
 by_cases k36:c=36
 ·subst k36;exact yT (zYr (Or.inr rfl) h (by omega) hl hF) hlen
 by_cases k42:c=42
 ·subst k42;exact yT (zEj (n:=n) rfl) hlen
 by_cases k43:c=43
 ·subst k43;exact yT (zEj (n:=n) rfl) hlen
 by_cases k63:c=63
 ·subst k63;exact yT (zEj (n:=n) rfl) hlen
 by_cases zIu:c=123
 ·subst zIu;exact yT (zEj (n:=n) rfl) hlen
 by_cases k46:c=46
 ·subst k46;exact yT (yXp (by omega) h (by omega) hl hF) hlen
 by_cases k91:c=91
 ·subst k91;exact yT (yVs hn h hs hl hF) hlen
 by_cases k92:c=92
 ·subst k92;exact yT (yJq (by omega) h hs hl hF) hlen
 have e94:((c.toNat:Int)==94)=false:=neI (k:=94) k94;have e36:((c.toNat:Int)==36)=false:=neI (k:=36) k36;have e42:((c.toNat:Int)==42)=false:=neI (k:=42) k42;have e43:((c.toNat:Int)==43)=false:=neI (k:=43) k43;have e63:((c.toNat:Int)==63)=false:=neI (k:=63) k63;have yNz:((c.toNat:Int)==123)=false:=neI (k:=123) zIu;have e46:((c.toNat:Int)==46)=false:=neI (k:=46) k46;have e91:((c.toNat:Int)==91)=false:=neI (k:=91) k91;have e92:((c.toNat:Int)==92)=false:=neI (k:=92) k92;have xAh:((c.toNat:Int)==124)=false:=neI (k:=124) xAg;have e40:((c.toNat:Int)==40)=false:=neI (k:=40) h40;have e41:((c.toNat:Int)==41)=false:=neI (k:=41) h41;rw[aC (by rw[e94,e36,e42,e43,e63,yNz,e46,e91,e92,xAh,e40,e41];rfl),h4];have hle:=kS h;simp only[List.length_cons]at hle;have hw2:IntKind.wrap .i64 (psn s r1-1)=psn s (c::r1):=by
  rw[aW (by unfold psn;omega) (by unfold psn;omega)];unfold psn;simp only[List.length_cons];omega
 rw[hw2,aB (by unfold psn;simp only[List.length_cons];simp;omega)];have ht:(s.take (psn s r1).toNat).drop (psn s (c::r1)).toNat=[c]:=take_at h (k:=1) (by simp);rw[ht,zCh _ (by simp;omega) (by simp),yJi];simp only[aK];have hit:lN rows (c::r1) b=pK (.bytes (Lf c)) r1 b:=by
  unfold lN Bw;have f:∀ k:UInt8,c≠k->(c==k)=false:=λk h=>by simpa using h
  simp only[gH,f 94 k94,f 36 k36,f 42 k42,f 43 k43,f 63 k63,f 123 zIu,f 46 k46,f 91 k91,f 92 k92,f 40 h40,cond_false,Bool.or_false]
 rw[hit]at hlen ⊢;exact yT (Vf h3 (by omega) hl hF) hlen
end
end Go.Dec
namespace Go.Dec
theorem zCy(mk:Pt->Pt->Pt):∀ (pre:List Pt) (t:Pt),rO mk (pre++[t])=pre.foldr mk t
 |[],t=>rfl
 |[u],t=>rfl
 |u::v::pre,t=>by
  have:=zCy mk (v::pre) t;simp only[List.cons_append,rO,List.foldr_cons]at this ⊢;rw[this]
theorem zGc:∀ (a b:List Pt) (o:Nat),dM o (a++b)=dM o a++dM (o+szA a) b
 |[],b,o=>by simp[dM,szA]
 |t::a,b,o=>by simp[dM,szA,zGc a b,Nat.add_assoc]
structure Joins (mk:Pt->Pt->Pt) (kind:Int):Prop where
 sz:∀ a b,(mk a b).sz=a.sz+b.sz+1
 enc:∀ a b o,(mk a b).enc o=a.enc o++b.enc (o+a.sz)++[(kind,[0,0,0,0],a.top o,b.top (o+a.sz),0,0,0,())]
theorem zRh:Joins .cat 4:=⟨λ_ _=>rfl,λ_ _ _=>rfl⟩
theorem zCz:Joins .alt 5:=⟨λ_ _=>rfl,λ_ _ _=>rfl⟩
section
variable {n:Nat}{s r:List UInt8}{l:List Nd}{st0:List Fr}{F:Fr}
theorem yVt{at' k a c mi ma nn b e w:Int}{v:List Int}{q:Value}(hl:l.length<1000000):iJ n (k,v,a,c,mi,ma,nn,s,at',b,q,e,w,l,())=some (((l.length:Nat):Int),s,at',b,q,e,w,l++[(k,v,a,c,mi,ma,nn,())],()):=by
 unfold iJ;simp only;rw[aB (by simp[room];omega)];simp only[List.length_append,List.length_cons,List.length_nil];rw[aW (by omega) (by omega)];congr 2;omega
theorem yGm{mk:Pt->Pt->Pt}{kind:Int}(hj:Joins mk kind){at' b e w:Int}{q:Value}{ts:List Pt}(hl:l.length+szL ts<900000):∀ (k m:Nat) (pre suf:List Pt) (u:Pt),pre.length=k->ts=pre++suf->szA pre+u.sz+pre.length<=szL ts->k<m ->
 fix (gZ n) m (kind,u.top (l.length+szA pre),(k:Int)-1,s,at',b,q,e,w,gB l.length ts,l++dM l.length pre++u.enc (l.length+szA pre),()) =
  some ((pre.foldr mk u).top l.length,s,at',b,q,e,w,gB l.length ts,l++(pre.foldr mk u).enc l.length,()):=by
 intro k;induction k with
 |zero =>
  intro m pre suf u hk hts hsz hm;have:pre=[]:=List.eq_nil_of_length_eq_zero hk;subst this;rw[bI hm,gZ];simp only;rw[aC (by simp)];simp[dM,szA]
 |succ k ih =>
  intro m pre suf u hk hts hsz hm;obtain⟨pre',t,rfl⟩:∃ pre' t,pre=pre'++[t]:=by
   rcases List.eq_nil_or_concat pre with rfl|⟨p,t,rfl⟩
   ·simp at hk
   ·exact⟨p,t,by simp⟩
  have hk':pre'.length=k:=by simpa using hk
  have zIv:ts=pre'++t::suf:=by rw[hts];simp
  have hat:=zIp pre' t suf l.length 0;rw[<- zIv,hk']at hat;have hlen:(gB l.length ts).length=ts.length:=oG _ _;have htl:k<ts.length:=by rw[zIv];simp;omega
  rw[bI (by omega),gZ];simp only;rw[show((k+1:Nat):Int)-1=(k:Int)by omega];rw[aI (by simp),hlen,aB (by rw[fQ htl];simp),Int.toNat_natCast,Nat.zero_add,aB (by simp;omega),show Ty.dflt (.int .i64)=(0:Int)from rfl,hat];rw[oL]at hsz;simp only[szA,List.length_append,List.length_cons,List.length_nil]at hsz;rw[yVt (by simp only[List.length_append,mF,oL,Pt.bX,szA];omega)];simp only[aK];rw[aW (by omega) (by omega)];have hc:=ih (m-1) pre' (t::suf) (mk t u) hk' zIv (by rw[hj.sz];omega) (by omega);have e1:(((l++dM l.length (pre'++[t])++u.enc (l.length+szA (pre'++[t]))).length:Nat):Int)=(mk t u).top (l.length+szA pre'):=by
   simp only[List.length_append,mF,oL,Pt.bX,szA,Pt.top,hj.sz];omega
  have e2:l++dM l.length (pre'++[t])++u.enc (l.length+szA (pre'++[t]))++[(kind,[0,0,0,0],t.top (l.length+szA pre'),u.top (l.length+szA (pre'++[t])),0,0,0,())]=l++dM l.length pre'++(mk t u).enc (l.length+szA pre'):=by
   simp only[wF,oL,szA,hj.enc,List.append_assoc,Nat.add_zero,Nat.add_assoc]
  rw[e1,e2,hc,List.foldr_append];rfl
theorem zPm{mk:Pt->Pt->Pt}{kind:Int}(hj:Joins mk kind){at' b e w:Int}{ts:List Pt}(hne:ts≠[])(hn:ts.length+10<=n)(hl:l.length+szL ts<900000):fJ n (kind,s,at',b,e,w,gB l.length ts,l++dM l.length ts,())=some ((rO mk ts).top l.length,s,at',b,e,w,gB l.length ts,l++(rO mk ts).enc l.length,()):=by
 obtain⟨pre,t,rfl⟩:∃ pre t,ts=pre++[t]:=by
  rcases List.eq_nil_or_concat ts with rfl|⟨p,t,rfl⟩
  ·exact absurd rfl hne
  ·exact⟨p,t,by simp⟩
 have hsl:=Bf (pre++[t]);have hat:=zIp pre t [] l.length 0;have hlen:(pre++[t]).length=pre.length+1:=by simp
 unfold fJ nI;simp only;rw[oG,hlen];rw[hlen]at hn hsl;rw[aW (x:=((pre.length+1:Nat):Int)-1) (by omega) (by omega),aW (by omega) (by omega)];rw[show((pre.length+1:Nat):Int)-1=(pre.length:Int)by omega,show((pre.length+1:Nat):Int)-2=(pre.length:Int)-1 by omega];rw[aB (by rw[fQ (by omega)];simp),Int.toNat_natCast,Nat.zero_add,aB (by simp),show Ty.dflt (.int .i64)=(0:Int)from rfl,hat];have hsz:szA (pre++[t])=szA pre+t.sz:=by rw[oL];rfl
 have hc:=yGm (n:=n) (s:=s) (l:=l) hj (at':=at') (b:=b) (e:=e) (w:=w) (q:=Value.nilFunc) (ts:=pre++[t]) hl pre.length n pre [t] t rfl rfl (by omega) (by omega);have e:l++dM l.length (pre++[t])=l++dM l.length pre++t.enc (l.length+szA pre):=by rw[wF,List.append_assoc]
 rw[e,hc,zCy]
def frm (o:Nat) (bg nn:Int) (rs:List (List Pt)) (ts:List Pt):Fr:=(bg,nn,gB o (rs.map dX),gB (o+szA (rs.map dX)) ts,())
abbrev stF(s r:List UInt8)(b:Nat)(l0:List Nd)(st0:List Fr)(bg nn:Int)(rs:List (List Pt))(ts:List Pt):Er0 :=
 eSt s r b (l0++dM l0.length (rs.map dX++ts)) (st0++[frm l0.length bg nn rs ts])
theorem Cz:∀ {rs:List (List Pt)},(∀ ts∈rs,ts≠[])->szA (rs.map dX)+rs.length<=iM rs
 |[],_=>bA _
 |ts::rs,h=>by
  have h1:=Cz (rs:=rs) (λx hx=>h x (by simp[hx]));have h2:=h ts (by simp);cases ts with
  |nil=>exact absurd rfl h2
  |cons t ts =>
   have:=zEi t ts;simp only[List.map_cons,szA,iM,List.length_cons]at h1 ⊢;omega
variable {b:Nat}{bg nn:Int}{rs:List (List Pt)}{ts:List Pt}
theorem yOa{t:Pt}:zYo (frm l.length bg nn rs ts) (t.top (l++dM l.length (rs.map dX++ts)).length)=frm l.length bg nn rs (ts++[t]):=by
 unfold zYo frm;simp only;rw[Km,List.length_append,mF];congr 6;rw[oL,Nat.add_assoc]
end
end Go.Dec
