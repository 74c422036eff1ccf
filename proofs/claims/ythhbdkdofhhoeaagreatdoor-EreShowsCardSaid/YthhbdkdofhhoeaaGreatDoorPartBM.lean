/- Part of a proof over this seat: a library of my own, and what it says of this seat. No statement is proved here. -/
import Derived.Test.YthhbdkdofhhoeaaGreatDoorPartBL
namespace Go.Dec
section
variable {n:Nat}{s r:List UInt8}{l:List Nd}{st0:List Fr}{b:Nat}{bg nn:Int}{rs:List (List Pt)}{ts:List Pt}
def Wt (l:List Nd) (rs:List (List Pt)) (ts:List Pt) (r:List UInt8):Nat:=l.length+iH rs+szL ts+3*r.length
theorem Ve:uY s 40 r.length (fJ n (stF s r b l st0 bg nn rs [])):=by
 unfold fJ;simp only;rw[Lm,Lp];rw[aC (Nat.ble_eq_true_of_le (by simp)),aC (Nat.ble_eq_true_of_le (by omega)),aC (decide_eq_true (by omega))];rw[bD (by rfl)];exact⟨_,_,_,_,rfl⟩
theorem Oc(hne:ts≠[])(hrs:∀ x∈rs,x≠[])(hw:Wt l rs ts r<700000)(hn:Wt l rs ts r+20<=n):fJ n (stF s r b l st0 bg nn rs ts)=some (true,stF s r b l st0 bg nn (rs++[ts]) []):=by
 have hz:=Hf hrs;have hz2:=Ll ts;unfold Wt at hw hn;unfold fJ;simp only;rw[Lm,Lp];rw[aC (Nat.ble_eq_true_of_le (by simp)),aC (Nat.ble_eq_true_of_le (by omega)),aC (decide_eq_true (by omega)),aC (decide_eq_true (by omega)),aC (decide_eq_true (by omega))];have hlen:(frm l.length bg nn rs ts).2.2.2.1.length=ts.length:=xU _ _;rw[aS (by rw[hlen];cases ts with|nil=>exact absurd rfl hne|cons t ts=>rw[beq_eq_false_iff_ne,List.length_cons];omega)];have e1:l++gB l.length (rs.map gN++ts)=(l++gB l.length (rs.map gN))++gB (l++gB l.length (rs.map gN)).length ts:=by
  rw[Wz,List.append_assoc,List.length_append,pF]
 have e2:(frm l.length bg nn rs ts).2.2.2.1=jQ (l++gB l.length (rs.map gN)).length ts:=by
  rw[List.length_append,pF];rfl
 rw[e1,e2,zEi zVh hne (by omega) (by rw[List.length_append,pF];omega)];simp only[bA];have e3:(frm l.length bg nn rs ts).2.2.1.length=rs.length:=by simp only[frm];rw[xU,List.length_map]
 rw[aC (Nat.ble_eq_true_of_le (by rw[e3];simp only[List.length_cons,List.length_nil,room];omega)),aC (decide_eq_true (by omega)),aC (decide_eq_true (by omega))];have e4:gB l.length (List.map gN (rs++[ts])++[])=gB l.length (rs.map gN)++(gN ts).enc (l++gB l.length (rs.map gN)).length:=by
  rw[List.append_nil,List.map_append,List.map_cons,List.map_nil,He,List.length_append,pF]
 have e5:frm l.length bg nn (rs++[ts]) []=(bg,nn,jQ l.length (rs.map gN)++[(gN ts).top (l++gB l.length (rs.map gN)).length],[],()):=by
  simp only[frm,List.map_append,List.map_cons,List.map_nil,jQ];rw[Te,List.length_append,pF]
 show _=some (true,s,psn s r,(b:Int),0,0,l++gB l.length (List.map gN (rs++[ts])++[]),st0++[frm l.length bg nn (rs++[ts]) []],());rw[e4,e5,<- List.append_assoc];rfl
theorem Ls{m:Nat}{c:UInt8}{r1:List UInt8}{st:List Fr}{b:Nat}{l:List Nd}(h:c::r1 <:+ s)(hs:s.length<900000):(c=124->fix (aG n) (m+1) (eSt s (c::r1) b l st)=ob (kM n (eSt s (c::r1) b l st)) λy=>br (!y.1) (some (false,y.2)) (fix (aG n) m y.2)) /\
 (c=40->fix (aG n) (m+1) (eSt s (c::r1) b l st)=ob (lJ n (eSt s (c::r1) b l st)) λy=>br (!y.1) (some (false,y.2)) (fix (aG n) m y.2)) /\
 (c=41->fix (aG n) (m+1) (eSt s (c::r1) b l st)=ob (gL n (eSt s (c::r1) b l st)) λy=>br (!y.1) (some (false,y.2)) (fix (aG n) m y.2)):=by
 obtain⟨h1,h2,h3,h4,h5⟩:=Bv h (by omega);refine⟨?_,?_,?_⟩<;>rintro rfl<;>rw[dD (by omega),Nat.add_sub_cancel]<;>(conv=>lhs;unfold aG)<;>simp only<;>rw[bD h5,aC h1,h2]<;>rfl
theorem zMa{m:Nat}{r1:List UInt8}(h:124::r1 <:+ s)(hs:s.length<900000)(hrs:∀ x∈rs,x≠[])(hw:Wt l rs ts (124::r1)<700000)(hn:Wt l rs ts (124::r1)+20<=n):(ts=[]->uY s 40 (r1.length+1) (fix (aG n) (m+1) (stF s (124::r1) b l st0 bg nn rs ts))) /\
 (ts≠[]->fix (aG n) (m+1) (stF s (124::r1) b l st0 bg nn rs ts)=fix (aG n) m (stF s r1 b l st0 bg nn (rs++[ts]) [])):=by
 obtain⟨h1,h2,h3,h4,h5⟩:=Bv h (by omega);rw[(Ls h hs).1 rfl];constructor
 ·rintro rfl;obtain⟨a,b',l',st',hr⟩:=Ve (n:=n) (s:=s) (r:=124::r1) (b:=b) (l:=l) (st0:=st0) (bg:=bg) (nn:=nn) (rs:=rs);refine⟨a,b',l',st',?_⟩;unfold kM;rw[hr];rfl
 ·intro hne;unfold kM;rw[Oc hne hrs hw hn];simp only[bA,Bool.not_true,bR];rw[h4]
theorem zVi{m:Nat}{r1:List UInt8}{F:List Fr}(h:40::r1 <:+ s)(hs:s.length<900000)(hb:b<=9)(hst:F.length<1000):(b=9->uY s 41 (r1.length+1) (fix (aG n) (m+1) (eSt s (40::r1) b l F))) /\
 (b≠9->fix (aG n) (m+1) (eSt s (40::r1) b l F)=fix (aG n) m (stF s r1 (b+1) l F (psn s (40::r1)) ((b+1:Nat):Int) [] [])):=by
 obtain⟨h1,h2,h3,h4,h5⟩:=Bv h (by omega);rw[(Ls h hs).2.1 rfl];constructor
 ·rintro rfl;exact⟨_,_,_,_,rfl⟩
 ·intro hne;unfold lJ;simp only;rw[aS (by rw[beq_eq_false_iff_ne];omega),h4,bZ (by omega) (by omega),aC (Nat.ble_eq_true_of_le (by simp only[List.length_cons,List.length_nil,room];omega))];simp only[bA,Bool.not_true,bR,stF,frm,List.map_nil,List.append_nil,gB,jQ];rfl
theorem zNk{m:Nat}{r1:List UInt8}{G:Fr}{g:Nat}(h:41::r1 <:+ s)(hs:s.length<900000)(hrs:∀ x∈rs,x≠[])(hw:Wt l rs ts (41::r1)<700000)(hn:Wt l rs ts (41::r1)+20<=n)(hF:G.2.2.2.1.length<1000000)(hst:st0.length<1000)(hm:∀ t r b',oN (.group (eX (rs++[ts])) g) r1 b=.ok t r b'->r.length+1<=r1.length+1):(ts=[]->uY s 40 (r1.length+1) (fix (aG n) (m+1) (stF s (41::r1) b l (st0++[G]) bg (g:Int) rs ts))) /\
 (ts≠[]->GOK n s l st0 G (oN (.group (eX (rs++[ts])) g) r1 b) (m+1) (r1.length+1) (fix (aG n) (m+1) (stF s (41::r1) b l (st0++[G]) bg (g:Int) rs ts))):=by
 obtain⟨h1,h2,h3,h4,h5⟩:=Bv h (by omega);rw[(Ls h hs).2.2 rfl];have hlen:((st0++[G]++[frm l.length bg (g:Int) rs ts]).length+0:Nat)=st0.length+2:=by simp
 constructor
 ·rintro rfl;obtain⟨a,b',l',st',hr⟩:=Ve (n:=n) (s:=s) (r:=41::r1) (b:=b) (l:=l) (st0:=st0++[G]) (bg:=bg) (nn:=(g:Int)) (rs:=rs);refine⟨a,b',l',st',?_⟩;unfold gL;simp only;rw[hlen,aS (by rw[beq_eq_false_iff_ne];omega),hr];rfl
 ·intro hne;refine uF ?_ hm;unfold gL;simp only;rw[hlen,aS (by rw[beq_eq_false_iff_ne];omega),Oc hne hrs hw hn];simp only[bA,Bool.not_true,bR];rw[Lm,Lp,show(st0++[G]).length+1=st0.length+2 by simp];rw[aC (Nat.ble_eq_true_of_le (by simp)),aC (Nat.ble_eq_true_of_le (by omega)),aC (decide_eq_true (by simp))];rw[bZ (x:=((st0.length+2:Nat):Int)-1) (by omega) (by omega),show((st0.length+2:Nat):Int)-1=((st0.length+1:Nat):Int)by omega,Int.toNat_natCast];rw[aC (by simp;omega),aC (Nat.ble_eq_true_of_le (by simp)),h4];have zSl:∀ x∈rs++[ts],x≠[]:=by
   intro x hx;rcases List.mem_append.1 hx with hx|hx
   ·exact hrs x hx
   ·rw[List.mem_singleton]at hx;subst hx;exact hne
  have hz:=Hf zSl;have hz2:iH (rs++[ts])=iH rs+szL ts:=by rw[Az];simp[iH]
  unfold Wt at hw hn;have hrl:(rs++[ts]).length=rs.length+1:=by simp
  have hsl:=Ll ((rs++[ts]).map gN);rw[List.length_map]at hsl;have e1:(frm l.length bg (g:Int) (rs++[ts]) []).2.2.1=jQ l.length ((rs++[ts]).map gN):=rfl;rw[e1,List.append_nil,zEi zFx (by simp) (by rw[List.length_map];omega) (by omega)];simp only[bA];have hT:(eX (rs++[ts])).sz+1<=iH (rs++[ts]):=Zb _ (by simp) zSl;have hTl:(l++(eX (rs++[ts])).enc l.length).length<1000000:=by rw[List.length_append,Pt.iP];omega
  show EOK s l st0 G _ (ob (bN n (7,[0,0,0,0],(eX (rs++[ts])).top l.length,0,0,0,(g:Int),s,psn s r1,(b:Int),0,0,l++(eX (rs++[ts])).enc l.length,())) _);rw[zCj hTl];simp only[bA,Ir];have:=zVe (n:=n) (b:=b) (l:=l) (st0:=st0) (F:=G) (t:=.group (eX (rs++[ts])) g) h3 (by omega) (by simp only[Pt.sz];omega) hF;have e2:(Pt.group (eX (rs++[ts])) g).top l.length=(((l++(eX (rs++[ts])).enc l.length).length:Nat):Int):=by
   simp only[Pt.top,Pt.sz,List.length_append,Pt.iP];omega
  rw[e2]at this;rw[show(st0++[G]).take (st0.length+1)=st0++[G]by rw[List.take_of_length_le (by simp)]];have e3:l++(eX (rs++[ts])).enc l.length++[(7,[0,0,0,0],(eX (rs++[ts])).top l.length,0,0,0,(g:Int),())]=l++(Pt.group (eX (rs++[ts])) g).enc l.length:=by simp only[Pt.enc,List.append_assoc]
  rw[e3];exact this
theorem zFy{m:Nat}{r1:List UInt8}(h:41::r1 <:+ s)(hs:s.length<900000):uY s 41 (r1.length+1) (fix (aG n) (m+1) (stF s (41::r1) b l [] bg nn rs ts)):=by
 obtain⟨h1,h2,h3,h4,h5⟩:=Bv h (by omega);rw[(Ls h hs).2.2 rfl];exact⟨_,_,_,_,rfl⟩
theorem zMb{m:Nat}:uY s 40 0 (fix (aG n) (m+1) (stF s [] b l st0 bg nn rs [])):=by
 rw[dD (by omega),Nat.add_sub_cancel];unfold aG;simp only;rw[aS (by unfold psn;simp)];obtain⟨a,b',l',st',hr⟩:=Ve (n:=n) (s:=s) (r:=[]) (b:=b) (l:=l) (st0:=st0) (bg:=bg) (nn:=nn) (rs:=rs);rw[hr];exact⟨a,b',l',st',rfl⟩
theorem zGw{m k:Nat}{G:Fr}(hne:ts≠[])(hrs:∀ x∈rs,x≠[])(hw:Wt l rs ts []<700000)(hn:Wt l rs ts []+20<=n):uY s 41 k (fix (aG n) (m+1) (stF s [] b l (st0++[G]) ((s.length-k:Nat):Int) nn rs ts)):=by
 rw[dD (by omega),Nat.add_sub_cancel];unfold aG;simp only;rw[aS (by unfold psn;simp),Oc hne hrs hw hn];simp only[bA,Bool.not_true,bR];have hlen:∀ F:Fr,((st0++[G]++[F]).length+0:Nat)=st0.length+2:=λF=>by simp
 rw[hlen,bD (by simp;omega),aC (Nat.ble_eq_true_of_le (by omega)),aC (decide_eq_true (by simp))];have hg:∀ F d:Fr,(st0++[G]++[F]).getD (st0.length+2-1) d=F:=λF d=>by
  have:=Lp (st0++[G]) F d;rw[show(st0++[G]++[F]).length=st0.length+2 by simp]at this;exact this
 rw[hg];simp only[zLr,bA];exact⟨_,_,_,_,rfl⟩
theorem zZa{m:Nat}(hne:ts≠[])(hrs:∀ x∈rs,x≠[])(hw:Wt [] rs ts []<700000)(hn:Wt [] rs ts []+20<=n):if(eX (rs++[ts])).sz<=120 then ∃ (a b':Int) (st':List Fr) (e w:Int),fix (aG n) (m+1) (stF s [] b [] [] bg nn rs ts)=some (true,s,a,b',e,w,(eX (rs++[ts])).enc 0,st',())
 else uY s 2 s.length (fix (aG n) (m+1) (stF s [] b [] [] bg nn rs ts)):=by
 have zSl:∀ x∈rs++[ts],x≠[]:=by
  intro x hx;rcases List.mem_append.1 hx with hx|hx
  ·exact hrs x hx
  ·rw[List.mem_singleton]at hx;subst hx;exact hne
 have hz:=Hf zSl;have hz2:iH (rs++[ts])=iH rs+szL ts:=by rw[Az];simp[iH]
 have hsl:=Ll ((rs++[ts]).map gN);rw[List.length_map]at hsl;rw[dD (by omega),Nat.add_sub_cancel];unfold aG;simp only;rw[aS (by unfold psn;simp),Oc hne hrs hw hn];unfold Wt at hw hn;simp only[List.length_nil]at hw;simp only[bA,Bool.not_true,bR];have hlen:∀ F:Fr,(([]++[F]:List Fr).length+0:Nat)=1:=λF=>by simp
 rw[hlen,aS (by simp),Lm,Lp,aC (Nat.ble_eq_true_of_le (by simp)),aC (Nat.ble_eq_true_of_le (by omega)),aC (decide_eq_true (by omega))];have e1:(frm ([]:List Nd).length bg nn (rs++[ts]) []).2.2.1=jQ ([]:List Nd).length ((rs++[ts]).map gN):=rfl;rw[e1,List.append_nil,zEi zFx (by simp) (by rw[List.length_map];omega) (by simp only[List.length_nil];omega)];simp only[bA];have e2:([]++(oO .alt ((rs++[ts]).map gN)).enc ([]:List Nd).length)=(eX (rs++[ts])).enc 0:=rfl;rw[e2,Pt.iP];by_cases h:(eX (rs++[ts])).sz<=120
 ·rw[if_pos h,bD (by simp;omega)];exact⟨_,_,_,_,_,rfl⟩
 ·rw[if_neg h,aS (by simp;omega)];simp only[zLr,bA];exact⟨_,_,_,_,by rw[Nat.sub_self];rfl⟩
end
end Go.Dec
namespace Go.Dec
section
variable {n:Nat}{s:List UInt8}
def zHu(n:Nat)(s:List UInt8)(rows:List UInt8->Nat->jA (List (List Pt)))(F0:Nat):Prop :=
 ∀ (r:List UInt8) (b:Nat) (l:List Nd) (st:List Fr) (bg nn:Int) (m:Nat),r <:+ s->b+1<=9->F0<=b+1->Wt l [] [] r<600000->Wt l [] [] r+200<=n->st≠[]->st.length<=b+1->r.length<m ->
  match rows r (b+1)with
  |.er c k=>uY s c k (fix (aG n) m (stF s r (b+1) l st bg nn [] []))
  |.ok rs r2 b2=>∃ (m':Nat) (rs':List (List Pt)) (ts':List Pt),rs=rs'++[ts']/\m+r2.length<=m'+r.length /\
   fix (aG n) m (stF s r (b+1) l st bg nn [] [])=fix (aG n) m' (stF s r2 b2 l st bg nn rs' ts')
theorem yEu{rows:List UInt8->Nat->jA (List (List Pt))}{F0:Nat}(hs:s.length<200000)(hn:s.length+500<=n)(hgood:∀ r b,b+1<=9->F0<=b+1->Cv r (b+1) (rows r (b+1)))(hrow:zHu n s rows F0){r:List UInt8}{b:Nat}{l:List Nd}{st0:List Fr}{G:Fr}{m:Nat}(h:r <:+ s)(hc:wG r=false)(hb:b<=9)(h0:F0<=b+1)(hl:l.length+3*r.length<600000)(hln:l.length+3*r.length+200<=n)(hF:G.2.2.2.1.length<700000)(hst:st0.length<=b)(hm:r.length<m):GOK n s l st0 G (kW rows r b) m r.length (fix (aG n) m (eSt s r b l (st0++[G]))):=by
 cases r with
 |nil=>cases hc
 |cons c r1 =>
  simp only[wG,Bool.or_eq_false_iff,beq_eq_false_iff_ne]at hc;have hig:=Nw (rows:=rows) hb (by simp) (λr h=>hgood r b h h0) (r:=c::r1);obtain⟨m,rfl⟩:∃ k,m=k+1:=⟨m-1,by omega⟩;by_cases h40:c=40
  case neg =>
   refine zVg hn h (by omega) (by simp only[List.length_cons]at hl;omega) (by omega) h40 hc.2 hc.1 ?_;intro t r b' ho;rw[ho]at hig;have:=hig.2.1;have:=t.zUv;simp only[List.length_cons]at *;omega
  subst h40;simp only[List.length_cons]at hl hln hm;have hs1:r1 <:+ s:=(List.suffix_cons 40 r1).trans h;have hop:=zVi (n:=n) (l:=l) (m:=m) (F:=st0++[G]) h (by omega) hb (by simp;omega);have hat:pQ rows (40::r1) b=bif b==9 then .er 41 (r1.length+1)
   else match rows r1 (b+1)with
    |.er e k=>.er e k
    |.ok rs r2 b2=>match r2 with
     |[]=>.er 41 (r1.length+1)
     |_::r3=>.ok (.group (eX rs) (b+1)) r3 b2:=by unfold pQ;rfl
  unfold kW at hig ⊢;rw[hat]at hig ⊢;by_cases h9:b=9
  ·rw[show(b==9)=true by simpa using h9];exact hop.1 h9
  ·rw[show(b==9)=false by simpa using h9]at hig ⊢;simp only[cond_false]at hig ⊢;rw[hop.2 h9];have hR:=hrow r1 b l (st0++[G]) (psn s (40::r1)) ((b+1:Nat):Int) m hs1 (by omega) h0 (by simp only[Wt,iH,szL];omega) (by simp only[Wt,iH,szL];omega) (by simp) (by simp;omega) (by omega);have hG:=hgood r1 b (by omega) h0;cases ho:rows r1 (b+1)with
   |er e k=>rw[ho]at hR;exact hR
   |ok rs r2 b2 =>
    rw[ho]at hR hG hig;obtain⟨m',rs',ts',hrs,hm',hfx⟩:=hR;obtain⟨g1,g2,g3,g4,g5,g6,g7,g8⟩:=hG;rw[hfx];have hne:ts'≠[]:=(g7 ts' (by rw[hrs];simp)).1;have hne':∀ x∈rs',x≠[]:=λx hx=>(g7 x (by rw[hrs];simp[hx])).1
    have hz:iH rs=iH rs'+szL ts':=by rw[hrs,Az];simp[iH]
    have g1l:=g1.length_le;rcases g8 with rfl|⟨r3,rfl⟩
    ·simp only;obtain⟨m',rfl⟩:∃ k,m'=k+1:=⟨m'-1,by omega⟩;have:=zGw (n:=n) (s:=s) (l:=l) (st0:=st0) (G:=G) (b:=b2) (nn:=((b+1:Nat):Int)) (m:=m') (k:=r1.length+1) hne hne' (by simp only[Wt,List.length_nil]at *;omega) (by simp only[Wt,List.length_nil]at *;omega);exact this
    ·simp only at hig ⊢;simp only[List.length_cons]at g1l g2 hm';obtain⟨m',rfl⟩:∃ k,m'=k+1:=⟨m'-1,by omega⟩;have:=zNk (n:=n) (s:=s) (l:=l) (st0:=st0) (G:=G) (b:=b2) (bg:=psn s (40::r1)) (g:=b+1) (rs:=rs') (ts:=ts') (m:=m') (g1.trans hs1) (by omega) hne' (by simp only[Wt,List.length_cons]at *;omega) (by simp only[Wt,List.length_cons]at *;omega) (by omega) (by omega)
      (by
       intro t r b' ho2;have ht:=Wx (.group (eX (rs'++[ts'])) (b+1)) r3 b2;rw[ho2]at ht;have:=ht.1.length_le;omega)
     have h2:=this.2 hne;rw[<- hrs]at h2;unfold GOK at h2 ⊢;cases ho3:oN (.group (eX rs) (b+1)) r3 b2 with
     |er c k=>rw[ho3]at h2;exact h2
     |ok t r' b' =>
      rw[ho3]at h2;obtain⟨m'',k1,k2⟩:=h2;refine⟨m'',?_,k2⟩;simp only[List.length_cons];omega
theorem yBx{rows:List UInt8->Nat->jA (List (List Pt))}{F0:Nat}(hs:s.length<200000)(hn:s.length+500<=n)(hgood:∀ r b,b+1<=9->F0<=b+1->Cv r (b+1) (rows r (b+1)))(hrow:zHu n s rows F0){l:List Nd}{st0:List Fr}{bg nn:Int}{rs:List (List Pt)}(hrs:∀ x∈rs,x≠[]):∀ (f:Nat) (r:List UInt8) (b:Nat) (acc:List Pt) (m:Nat),r <:+ s->b<=9->F0<=b+1->st0.length<=b->Wt l rs acc r<600000->Wt l rs acc r+200<=n->r.length<f->r.length<m ->
 match rR rows f r b acc with
 |.er c k=>uY s c k (fix (aG n) m (stF s r b l st0 bg nn rs acc))
 |.ok ts r2 b2=>∃ m',m+r2.length<=m'+r.length/\fix (aG n) m (stF s r b l st0 bg nn rs acc)=fix (aG n) m' (stF s r2 b2 l st0 bg nn rs ts):=by
 intro f;induction f with
 |zero=>intro r b acc m _ _ _ _ _ _ h;omega
 |succ f ih =>
  intro r b acc m h hb h0 hst hw hwn hf hm;unfold rR;cases hc:wG r
  case true=>exact⟨m,by omega,rfl⟩
  simp only[cond_false];have hz:=Hf hrs;have hz2:=Ll acc;have hll:(l++gB l.length (rs.map gN++acc)).length=l.length+szA (rs.map gN)+szA acc:=by rw[List.length_append,pF,uX];omega
  have hit:=yEu hs hn hgood hrow (l:=l++gB l.length (rs.map gN++acc)) (st0:=st0) (G:=frm l.length bg nn rs acc) (m:=m) h hc hb h0 (by rw[hll];unfold Wt at hw;omega) (by rw[hll];unfold Wt at hwn;omega)
   (by rw[show(frm l.length bg nn rs acc).2.2.2.1.length=acc.length from xU _ _];unfold Wt at hw;omega) hst hm
  have hig:=Nw (rows:=rows) hb (show r≠[]by intro h;rw[h]at hc;cases hc) (λr h=>hgood r b h h0);cases ho:kW rows r b with
  |er e k=>rw[ho]at hit;exact hit
  |ok t r1 b1 =>
   rw[ho]at hit hig;obtain⟨m1,k1,k2⟩:=hit;obtain⟨g1,g2,g3,g4,g5,g6⟩:=hig;have hl:=g1.length_le;simp only;rw[k2,zYz];have e1:l++gB l.length (rs.map gN++acc)++t.enc (l++gB l.length (rs.map gN++acc)).length=l++gB l.length (rs.map gN++(acc++[t])):=by
    rw[<- List.append_assoc (as:=rs.map gN),He,hll,uX,List.append_assoc,Nat.add_assoc]
   rw[e1];have hwt:Wt l rs (acc++[t]) r1<=Wt l rs acc r:=by
    unfold Wt;rw[zOm];simp only[szL];omega
   have:=ih r1 b1 (acc++[t]) m1 (g1.trans h) g4 (by omega) (by omega) (by omega) (by omega) (by omega) (by omega);cases ho2:rR rows f r1 b1 (acc++[t])with
   |er c k=>rw[ho2]at this;exact this
   |ok ts r2 b2 =>
    rw[ho2]at this;obtain⟨m2,j1,j2⟩:=this;exact⟨m2,by omega,j2⟩
theorem zVj{rows:List UInt8->Nat->jA (List (List Pt))}{F0:Nat}{top:Bool}(hs:s.length<200000)(hn:s.length+500<=n)(hgood:∀ r b,b+1<=9->F0<=b+1->Cv r (b+1) (rows r (b+1)))(hrow:zHu n s rows F0){l:List Nd}{st0:List Fr}{bg nn:Int}(htop:top=true<->st0=[])(yIe:st0.length<1000):∀ (f:Nat) (r:List UInt8) (b:Nat) (acc:List (List Pt)) (m:Nat),(∀ x∈acc,x≠[])->r <:+ s->b<=9->F0<=b+1->st0.length<=b->Wt l acc [] r<600000->Wt l acc [] r+200<=n->r.length<f->r.length<m ->
 match wP rows top f r b acc with
 |.er c k=>uY s c k (fix (aG n) m (stF s r b l st0 bg nn acc []))
 |.ok rs r2 b2=>∃ (m':Nat) (rs':List (List Pt)) (ts':List Pt),rs=rs'++[ts']/\m+r2.length<=m'+r.length /\
  fix (aG n) m (stF s r b l st0 bg nn acc [])=fix (aG n) m' (stF s r2 b2 l st0 bg nn rs' ts'):=by
 intro f;induction f with
 |zero=>intro r b acc m _ _ _ _ _ _ _ h;omega
 |succ f ih =>
  intro r b acc m hacc h hb h0 hst hw hwn hf hm;unfold wP;have hi:=yBx hs hn hgood hrow hacc (l:=l) (st0:=st0) (bg:=bg) (nn:=nn) (r.length+1) r b [] m h hb h0 hst hw hwn (by omega) hm;have hg:=Wy (rows:=rows) F0 hgood (r.length+1) r b [] hb h0 (by omega);cases ho:rR rows (r.length+1) r b []with
  |er e k=>rw[ho]at hi;exact hi
  |ok ts r2 b2 =>
   rw[ho]at hi hg;obtain⟨m1,j1,j2⟩:=hi;obtain⟨new,k1,k2,k3,k4,k5,k6,k7,k8⟩:=hg;rw[List.nil_append]at k1;subst k1;have hl:=k2.length_le;have hs2:=k2.trans h;obtain⟨m1,rfl⟩:∃ k,m1=k+1:=⟨m1-1,by omega⟩;have hwt:Wt l acc ts r2<=Wt l acc [] r:=by unfold Wt;simp only[szL];omega
   cases ts with
   |nil =>
    simp only;rw[j2];cases r2 with
    |nil =>
     have e:(bif top&&[41].isPrefixOf ([]:List UInt8)then 41 else 40)=40:=by simp[List.isPrefixOf]
     rw[e];exact zMb
    |cons c r3 =>
     simp only[wG,Bool.or_eq_true,beq_iff_eq]at k8;rcases k8 with rfl|rfl
     ·have e:(bif top&&[41].isPrefixOf ((124:UInt8)::r3)then 41 else 40)=40:=by simp[List.isPrefixOf]
      rw[e];exact(zMa hs2 (by omega) hacc (by omega) (by omega)).1 rfl
     ·cases htp:top
      ·have hne:st0≠[]:=λh=>by rw[htop.2 h]at htp;cases htp
       obtain⟨st1,G,rfl⟩:∃ st1 G,st0=st1++[G]:=by
        rcases List.eq_nil_or_concat st0 with rfl|⟨p,t,rfl⟩
        ·exact absurd rfl hne
        ·exact⟨p,t,by simp⟩
       have hlen1:st1.length<1000:=by simp at yIe;omega
       rw[dD (by omega),Nat.add_sub_cancel];have hf2:=(Ls (n:=n) (m:=m1) (st:=st1++[G]++[frm l.length bg nn acc []]) (b:=b2) (l:=l++gB l.length (acc.map gN++[])) hs2 (by omega)).2.2 rfl;rw[dD (by omega),Nat.add_sub_cancel]at hf2;rw[hf2];obtain⟨a,b',l',st',hr⟩:=Ve (n:=n) (s:=s) (r:=41::r3) (b:=b2) (l:=l) (st0:=st1++[G]) (bg:=bg) (nn:=nn) (rs:=acc);refine⟨a,b',l',st',?_⟩;unfold gL;simp only;rw[show((st1++[G]++[frm l.length bg nn acc []]).length+0:Nat)=st1.length+2 by simp,aS (by rw[beq_eq_false_iff_ne];omega),hr];rfl
      ·have yIf:=htop.1 htp;subst yIf;exact zFy hs2 (by omega)
   |cons t ts =>
    simp only;rw[j2];cases hp:[124].isPrefixOf r2
    case false =>
     simp only[cond_false];exact⟨m1+1,acc,t::ts,rfl,by omega,rfl⟩
    simp only[cond_true];obtain⟨r3,rfl⟩:=yEj hp;rw[(zMa hs2 (by omega) hacc (by omega) (by omega)).2 (by simp)];simp only[List.drop_succ_cons,List.drop_zero];simp only[List.length_cons]at *;have hacc':∀ x∈acc++[t::ts],x≠[]:=by
     intro x hx;rcases List.mem_append.1 hx with hx|hx
     ·exact hacc x hx
     ·rw[List.mem_singleton]at hx;subst hx;simp
    have yJm:Wt l (acc++[t::ts]) [] r3<=Wt l acc [] r:=by
     unfold Wt at hwt ⊢;rw[Az];simp only[iH,szL,List.length_cons]at hwt ⊢;omega
    have:=ih r3 b2 (acc++[t::ts]) m1 hacc' ((List.suffix_cons _ _).trans hs2) k5 (by omega) (by omega) (by omega) (by omega) (by omega) (by omega);cases ho2:wP rows top f r3 b2 (acc++[t::ts])with
    |er c k=>rw[ho2]at this;exact this
    |ok rs r' b' =>
     rw[ho2]at this;obtain⟨m2,rs',ts',q1,q2,q3⟩:=this;exact⟨m2,rs',ts',q1,by omega,q3⟩
theorem yEv(hs:s.length<200000)(hn:s.length+500<=n):∀ (f:Nat),zHu n s (nP f false) (11-f):=by
 intro f;induction f with
 |zero=>intro r b l st bg nn m _ h9 h0;omega
 |succ f ih =>
  intro r b l st bg nn m h hb h0 hw hwn hst zYv hm;have:=zVj (rows:=nP f false) (top:=false) (F0:=11-f) hs hn (λr b h1 h2=>Ny f false r (b+1) (by omega) h1) ih (l:=l) (st0:=st) (bg:=bg) (nn:=nn) ⟨λh=>(by cases h),λh=>absurd h hst⟩ (by omega) (r.length+1) r (b+1) [] m (by simp) h hb (by omega) zYv hw hwn (by omega) hm;unfold nP;exact this
theorem zMc(hs:s.length<150000)(hn:3*s.length+600<=n):mM n s=some (zLi (Ti s)):=by
 unfold mM;simp only;cases hsv:s with
 |nil=>rfl
 |cons c s0 =>
  have he:Ti (c::s0)=match nP 11 true (c::s0) 0 with
   |.er e k=>.inr (e,(c::s0).length-k)
   |.ok rs r _ =>
    match r with
    |[]=>bif decide ((eX rs).sz>120)then .inr (2,0)else .inl (eX rs)
    |_=>.inr (41,(c::s0).length-r.length):=rfl
  rw[he,<- hsv];rw[aS (by rw[hsv];rfl)];have hb:=zVj (n:=n) (s:=s) (rows:=nP 10 false) (top:=true) (F0:=11-10) (by omega) (by omega) (λr b h1 h2=>Ny 10 false r (b+1) (by omega) h1) (yEv (by omega) (by omega) 10) (l:=[]) (st0:=[]) (bg:=0) (nn:=0) ⟨λ_=>rfl,λ_=>rfl⟩ (by simp) (s.length+1) s 0 [] n (by simp) (List.suffix_refl _) (by omega) (by omega) (by simp) (by simp only[Wt,iH,szL,List.length_nil];omega) (by simp only[Wt,iH,szL,List.length_nil];omega) (by omega) (by omega);have hr:nP 11 true s 0=wP (nP 10 false) true (s.length+1) s 0 []:=rfl;have hgood:=Ny 11 true s 0 (by omega) (by omega);rw[<- hr]at hb;have hst:stF s s 0 [] [] 0 0 [] []=(s,0,0,0,0,[],[(0,0,[],[],())],()):=by
   simp only[stF,eSt,frm,psn,Nat.sub_self];rfl
  have hw:rD n (s,0,0,0,0,[],[(0,0,[],[],())],())=fix (aG n) n (stF s s 0 [] [] 0 0 [] []):=by rw[hst];rfl
  rw[hw];have Oa:∀ {c k:Nat}{e:Option (Bool × Er0)},uY s c k e->(ob e λy1=>br (!y1.1) (some (([]:List Nd),y1.2.2.2.2.2.1,y1.2.2.2.2.1)) (some (y1.2.2.2.2.2.2.1,0,0)))=some (zLi (.inr (c,s.length-k))):=by
   rintro c k e ⟨a,b',l',st',rfl⟩;rfl
  cases ho:nP 11 true s 0 with
  |er e k=>rw[ho]at hb;exact Oa hb
  |ok rs r2 b2 =>
   rw[ho]at hb hgood;obtain⟨m',rs',ts',hrs,hm',hfx⟩:=hb;obtain⟨g1,g2,g3,g4,g5,g6,g7,g8⟩:=hgood;rw[hfx];have hne:ts'≠[]:=(g7 ts' (by rw[hrs];simp)).1;have hne':∀ x∈rs',x≠[]:=λx hx=>(g7 x (by rw[hrs];simp[hx])).1
   have hz:iH rs=iH rs'+szL ts':=by rw[hrs,Az];simp[iH]
   have g1l:=g1.length_le;rcases g8 with rfl|⟨r3,rfl⟩
   ·obtain⟨m',rfl⟩:∃ k,m'=k+1:=⟨m'-1,by simp at hm';omega⟩;simp only[List.length_nil]at g2;have:=zZa (n:=n) (s:=s) (b:=b2) (bg:=0) (nn:=0) (rs:=rs') (ts:=ts') (m:=m') hne hne' (by simp only[Wt,List.length_nil];omega) (by simp only[Wt,List.length_nil];omega);simp only;rw[hrs]at *;by_cases yEw:(eX (rs'++[ts'])).sz<=120
    ·rw[if_pos yEw]at this;obtain⟨a,b',st',e,w,hh⟩:=this;rw[hh,show decide ((eX (rs'++[ts'])).sz>120)=false by simp;omega];rfl
    ·rw[if_neg yEw]at this;rw[show decide ((eX (rs'++[ts'])).sz>120)=true by simp;omega,Oa this,Nat.sub_self];rfl
   ·simp only[List.length_cons]at hm';obtain⟨m',rfl⟩:∃ k,m'=k+1:=⟨m'-1,by omega⟩;exact Oa (zFy g1 (by omega))
end
end Go.Dec
