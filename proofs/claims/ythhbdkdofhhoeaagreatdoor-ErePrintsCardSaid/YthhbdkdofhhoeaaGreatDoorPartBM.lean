/- Part of a proof over this seat: a library of my own, and what it says of this seat. No statement is proved here. -/
import Derived.Test.YthhbdkdofhhoeaaGreatDoorPartBL
namespace Go.Dec
section
variable {n:Nat}{s r:List UInt8}{l:List Nd}{st0:List Fr}{b:Nat}{bg nn:Int}{rs:List (List Pt)}{ts:List Pt}
def Wt (l:List Nd) (rs:List (List Pt)) (ts:List Pt) (r:List UInt8):Nat:=l.length+iM rs+szL ts+3*r.length
theorem zEk:zU s 40 r.length (iK n (stF s r b l st0 bg nn rs [])):=by
 unfold iK;simp only;rw[Vd,Ve];rw[aB (Nat.ble_eq_true_of_le (by simp)),aB (Nat.ble_eq_true_of_le (by omega)),aB (decide_eq_true (by omega))];rw[aI (by rfl)];exact⟨_,_,_,_,rfl⟩
theorem Xq(hne:ts≠[])(hrs:∀ x∈rs,x≠[])(hw:Wt l rs ts r<700000)(hn:Wt l rs ts r+20<=n):iK n (stF s r b l st0 bg nn rs ts)=some (true,stF s r b l st0 bg nn (rs++[ts]) []):=by
 have hz:=Cz hrs;have hz2:=Bf ts;unfold Wt at hw hn;unfold iK;simp only;rw[Vd,Ve];rw[aB (Nat.ble_eq_true_of_le (by simp)),aB (Nat.ble_eq_true_of_le (by omega)),aB (decide_eq_true (by omega)),aB (decide_eq_true (by omega)),aB (decide_eq_true (by omega))];have hlen:(frm l.length bg nn rs ts).2.2.2.1.length=ts.length:=oG _ _;rw[aC (by rw[hlen];cases ts with|nil=>exact absurd rfl hne|cons t ts=>rw[beq_eq_false_iff_ne,List.length_cons];omega)];have e1:l++dM l.length (rs.map dX++ts)=(l++dM l.length (rs.map dX))++dM (l++dM l.length (rs.map dX)).length ts:=by
  rw[zGc,List.append_assoc,List.length_append,mF]
 have e2:(frm l.length bg nn rs ts).2.2.2.1=gB (l++dM l.length (rs.map dX)).length ts:=by
  rw[List.length_append,mF];rfl
 rw[e1,e2,zPm zRh hne (by omega) (by rw[List.length_append,mF];omega)];simp only[aK];have e3:(frm l.length bg nn rs ts).2.2.1.length=rs.length:=by simp only[frm];rw[oG,List.length_map]
 rw[aB (Nat.ble_eq_true_of_le (by rw[e3];simp only[List.length_cons,List.length_nil,room];omega)),aB (decide_eq_true (by omega)),aB (decide_eq_true (by omega))];have e4:dM l.length (List.map dX (rs++[ts])++[])=dM l.length (rs.map dX)++(dX ts).enc (l++dM l.length (rs.map dX)).length:=by
  rw[List.append_nil,List.map_append,List.map_cons,List.map_nil,wF,List.length_append,mF]
 have e5:frm l.length bg nn (rs++[ts]) []=(bg,nn,gB l.length (rs.map dX)++[(dX ts).top (l++dM l.length (rs.map dX)).length],[],()):=by
  simp only[frm,List.map_append,List.map_cons,List.map_nil,gB];rw[Km,List.length_append,mF]
 show _=some (true,s,psn s r,(b:Int),0,0,l++dM l.length (List.map dX (rs++[ts])++[]),st0++[frm l.length bg nn (rs++[ts]) []],());rw[e4,e5,<- List.append_assoc];rfl
theorem Vg{m:Nat}{c:UInt8}{r1:List UInt8}{st:List Fr}{b:Nat}{l:List Nd}(h:c::r1 <:+ s)(hs:s.length<900000):(c=124->fix (aJ n) (m+1) (eSt s (c::r1) b l st)=ob (nJ n (eSt s (c::r1) b l st)) λy=>br (!y.1) (some (false,y.2)) (fix (aJ n) m y.2)) /\
 (c=40->fix (aJ n) (m+1) (eSt s (c::r1) b l st)=ob (oJ n (eSt s (c::r1) b l st)) λy=>br (!y.1) (some (false,y.2)) (fix (aJ n) m y.2)) /\
 (c=41->fix (aJ n) (m+1) (eSt s (c::r1) b l st)=ob (jG n (eSt s (c::r1) b l st)) λy=>br (!y.1) (some (false,y.2)) (fix (aJ n) m y.2)):=by
 obtain⟨h1,h2,h3,h4,h5⟩:=Jl h (by omega);refine⟨?_,?_,?_⟩<;>rintro rfl<;>rw[bI (by omega),Nat.add_sub_cancel]<;>(conv=>lhs;unfold aJ)<;>simp only<;>rw[aI h5,aB h1,h2]<;>rfl
theorem zYs{m:Nat}{r1:List UInt8}(h:124::r1 <:+ s)(hs:s.length<900000)(hrs:∀ x∈rs,x≠[])(hw:Wt l rs ts (124::r1)<700000)(hn:Wt l rs ts (124::r1)+20<=n):(ts=[]->zU s 40 (r1.length+1) (fix (aJ n) (m+1) (stF s (124::r1) b l st0 bg nn rs ts))) /\
 (ts≠[]->fix (aJ n) (m+1) (stF s (124::r1) b l st0 bg nn rs ts)=fix (aJ n) m (stF s r1 b l st0 bg nn (rs++[ts]) [])):=by
 obtain⟨h1,h2,h3,h4,h5⟩:=Jl h (by omega);rw[(Vg h hs).1 rfl];constructor
 ·rintro rfl;obtain⟨a,b',l',st',hr⟩:=zEk (n:=n) (s:=s) (r:=124::r1) (b:=b) (l:=l) (st0:=st0) (bg:=bg) (nn:=nn) (rs:=rs);refine⟨a,b',l',st',?_⟩;unfold nJ;rw[hr];rfl
 ·intro hne;unfold nJ;rw[Xq hne hrs hw hn];simp only[aK,Bool.not_true,aZ];rw[h4]
theorem yJs{m:Nat}{r1:List UInt8}{F:List Fr}(h:40::r1 <:+ s)(hs:s.length<900000)(hb:b<=9)(hst:F.length<1000):(b=9->zU s 41 (r1.length+1) (fix (aJ n) (m+1) (eSt s (40::r1) b l F))) /\
 (b≠9->fix (aJ n) (m+1) (eSt s (40::r1) b l F)=fix (aJ n) m (stF s r1 (b+1) l F (psn s (40::r1)) ((b+1:Nat):Int) [] [])):=by
 obtain⟨h1,h2,h3,h4,h5⟩:=Jl h (by omega);rw[(Vg h hs).2.1 rfl];constructor
 ·rintro rfl;exact⟨_,_,_,_,rfl⟩
 ·intro hne;unfold oJ;simp only;rw[aC (by rw[beq_eq_false_iff_ne];omega),h4,aW (by omega) (by omega),aB (Nat.ble_eq_true_of_le (by simp only[List.length_cons,List.length_nil,room];omega))];simp only[aK,Bool.not_true,aZ,stF,frm,List.map_nil,List.append_nil,dM,gB];rfl
theorem yAs{m:Nat}{r1:List UInt8}{G:Fr}{g:Nat}(h:41::r1 <:+ s)(hs:s.length<900000)(hrs:∀ x∈rs,x≠[])(hw:Wt l rs ts (41::r1)<700000)(hn:Wt l rs ts (41::r1)+20<=n)(hF:G.2.2.2.1.length<1000000)(hst:st0.length<1000)(hm:∀ t r b',pK (.group (dO (rs++[ts])) g) r1 b=.ok t r b'->r.length+1<=r1.length+1):(ts=[]->zU s 40 (r1.length+1) (fix (aJ n) (m+1) (stF s (41::r1) b l (st0++[G]) bg (g:Int) rs ts))) /\
 (ts≠[]->GOK n s l st0 G (pK (.group (dO (rs++[ts])) g) r1 b) (m+1) (r1.length+1) (fix (aJ n) (m+1) (stF s (41::r1) b l (st0++[G]) bg (g:Int) rs ts))):=by
 obtain⟨h1,h2,h3,h4,h5⟩:=Jl h (by omega);rw[(Vg h hs).2.2 rfl];have hlen:((st0++[G]++[frm l.length bg (g:Int) rs ts]).length+0:Nat)=st0.length+2:=by simp
 constructor
 ·rintro rfl;obtain⟨a,b',l',st',hr⟩:=zEk (n:=n) (s:=s) (r:=41::r1) (b:=b) (l:=l) (st0:=st0++[G]) (bg:=bg) (nn:=(g:Int)) (rs:=rs);refine⟨a,b',l',st',?_⟩;unfold jG;simp only;rw[hlen,aC (by rw[beq_eq_false_iff_ne];omega),hr];rfl
 ·intro hne;refine yT ?_ hm;unfold jG;simp only;rw[hlen,aC (by rw[beq_eq_false_iff_ne];omega),Xq hne hrs hw hn];simp only[aK,Bool.not_true,aZ];rw[Vd,Ve,show(st0++[G]).length+1=st0.length+2 by simp];rw[aB (Nat.ble_eq_true_of_le (by simp)),aB (Nat.ble_eq_true_of_le (by omega)),aB (decide_eq_true (by simp))];rw[aW (x:=((st0.length+2:Nat):Int)-1) (by omega) (by omega),show((st0.length+2:Nat):Int)-1=((st0.length+1:Nat):Int)by omega,Int.toNat_natCast];rw[aB (by simp;omega),aB (Nat.ble_eq_true_of_le (by simp)),h4];have yGn:∀ x∈rs++[ts],x≠[]:=by
   intro x hx;rcases List.mem_append.1 hx with hx|hx
   ·exact hrs x hx
   ·rw[List.mem_singleton]at hx;subst hx;exact hne
  have hz:=Cz yGn;have hz2:iM (rs++[ts])=iM rs+szL ts:=by rw[Cx];simp[iM]
  unfold Wt at hw hn;have hrl:(rs++[ts]).length=rs.length+1:=by simp
  have hsl:=Bf ((rs++[ts]).map dX);rw[List.length_map]at hsl;have e1:(frm l.length bg (g:Int) (rs++[ts]) []).2.2.1=gB l.length ((rs++[ts]).map dX):=rfl;rw[e1,List.append_nil,zPm zCz (by simp) (by rw[List.length_map];omega) (by omega)];simp only[aK];have hT:(dO (rs++[ts])).sz+1<=iM (rs++[ts]):=Xm _ (by simp) yGn;have hTl:(l++(dO (rs++[ts])).enc l.length).length<1000000:=by rw[List.length_append,Pt.bX];omega
  show EOK s l st0 G _ (ob (cO n (7,[0,0,0,0],(dO (rs++[ts])).top l.length,0,0,0,(g:Int),s,psn s r1,(b:Int),0,0,l++(dO (rs++[ts])).enc l.length,())) _);rw[zMk hTl];simp only[aK,Rt];have:=yJp (n:=n) (b:=b) (l:=l) (st0:=st0) (F:=G) (t:=.group (dO (rs++[ts])) g) h3 (by omega) (by simp only[Pt.sz];omega) hF;have e2:(Pt.group (dO (rs++[ts])) g).top l.length=(((l++(dO (rs++[ts])).enc l.length).length:Nat):Int):=by
   simp only[Pt.top,Pt.sz,List.length_append,Pt.bX];omega
  rw[e2]at this;rw[show(st0++[G]).take (st0.length+1)=st0++[G]by rw[List.take_of_length_le (by simp)]];have e3:l++(dO (rs++[ts])).enc l.length++[(7,[0,0,0,0],(dO (rs++[ts])).top l.length,0,0,0,(g:Int),())]=l++(Pt.group (dO (rs++[ts])) g).enc l.length:=by simp only[Pt.enc,List.append_assoc]
  rw[e3];exact this
theorem zRi{m:Nat}{r1:List UInt8}(h:41::r1 <:+ s)(hs:s.length<900000):zU s 41 (r1.length+1) (fix (aJ n) (m+1) (stF s (41::r1) b l [] bg nn rs ts)):=by
 obtain⟨h1,h2,h3,h4,h5⟩:=Jl h (by omega);rw[(Vg h hs).2.2 rfl];exact⟨_,_,_,_,rfl⟩
theorem zYt{m:Nat}:zU s 40 0 (fix (aJ n) (m+1) (stF s [] b l st0 bg nn rs [])):=by
 rw[bI (by omega),Nat.add_sub_cancel];unfold aJ;simp only;rw[aC (by unfold psn;simp)];obtain⟨a,b',l',st',hr⟩:=zEk (n:=n) (s:=s) (r:=[]) (b:=b) (l:=l) (st0:=st0) (bg:=bg) (nn:=nn) (rs:=rs);rw[hr];exact⟨a,b',l',st',rfl⟩
theorem zSu{m k:Nat}{G:Fr}(hne:ts≠[])(hrs:∀ x∈rs,x≠[])(hw:Wt l rs ts []<700000)(hn:Wt l rs ts []+20<=n):zU s 41 k (fix (aJ n) (m+1) (stF s [] b l (st0++[G]) ((s.length-k:Nat):Int) nn rs ts)):=by
 rw[bI (by omega),Nat.add_sub_cancel];unfold aJ;simp only;rw[aC (by unfold psn;simp),Xq hne hrs hw hn];simp only[aK,Bool.not_true,aZ];have hlen:∀ F:Fr,((st0++[G]++[F]).length+0:Nat)=st0.length+2:=λF=>by simp
 rw[hlen,aI (by simp;omega),aB (Nat.ble_eq_true_of_le (by omega)),aB (decide_eq_true (by simp))];have hg:∀ F d:Fr,(st0++[G]++[F]).getD (st0.length+2-1) d=F:=λF d=>by
  have:=Ve (st0++[G]) F d;rw[show(st0++[G]++[F]).length=st0.length+2 by simp]at this;exact this
 rw[hg];simp only[zYl,aK];exact⟨_,_,_,_,rfl⟩
theorem yOb{m:Nat}(hne:ts≠[])(hrs:∀ x∈rs,x≠[])(hw:Wt [] rs ts []<700000)(hn:Wt [] rs ts []+20<=n):if(dO (rs++[ts])).sz<=120 then ∃ (a b':Int) (st':List Fr) (e w:Int),fix (aJ n) (m+1) (stF s [] b [] [] bg nn rs ts)=some (true,s,a,b',e,w,(dO (rs++[ts])).enc 0,st',())
 else zU s 2 s.length (fix (aJ n) (m+1) (stF s [] b [] [] bg nn rs ts)):=by
 have yGn:∀ x∈rs++[ts],x≠[]:=by
  intro x hx;rcases List.mem_append.1 hx with hx|hx
  ·exact hrs x hx
  ·rw[List.mem_singleton]at hx;subst hx;exact hne
 have hz:=Cz yGn;have hz2:iM (rs++[ts])=iM rs+szL ts:=by rw[Cx];simp[iM]
 have hsl:=Bf ((rs++[ts]).map dX);rw[List.length_map]at hsl;rw[bI (by omega),Nat.add_sub_cancel];unfold aJ;simp only;rw[aC (by unfold psn;simp),Xq hne hrs hw hn];unfold Wt at hw hn;simp only[List.length_nil]at hw;simp only[aK,Bool.not_true,aZ];have hlen:∀ F:Fr,(([]++[F]:List Fr).length+0:Nat)=1:=λF=>by simp
 rw[hlen,aC (by simp),Vd,Ve,aB (Nat.ble_eq_true_of_le (by simp)),aB (Nat.ble_eq_true_of_le (by omega)),aB (decide_eq_true (by omega))];have e1:(frm ([]:List Nd).length bg nn (rs++[ts]) []).2.2.1=gB ([]:List Nd).length ((rs++[ts]).map dX):=rfl;rw[e1,List.append_nil,zPm zCz (by simp) (by rw[List.length_map];omega) (by simp only[List.length_nil];omega)];simp only[aK];have e2:([]++(rO .alt ((rs++[ts]).map dX)).enc ([]:List Nd).length)=(dO (rs++[ts])).enc 0:=rfl;rw[e2,Pt.bX];by_cases h:(dO (rs++[ts])).sz<=120
 ·rw[if_pos h,aI (by simp;omega)];exact⟨_,_,_,_,_,rfl⟩
 ·rw[if_neg h,aC (by simp;omega)];simp only[zYl,aK];exact⟨_,_,_,_,by rw[Nat.sub_self];rfl⟩
end
end Go.Dec
namespace Go.Dec
section
variable {n:Nat}{s:List UInt8}
def zTs(n:Nat)(s:List UInt8)(rows:List UInt8->Nat->jL (List (List Pt)))(F0:Nat):Prop :=
 ∀ (r:List UInt8) (b:Nat) (l:List Nd) (st:List Fr) (bg nn:Int) (m:Nat),r <:+ s->b+1<=9->F0<=b+1->Wt l [] [] r<600000->Wt l [] [] r+200<=n->st≠[]->st.length<=b+1->r.length<m ->
  match rows r (b+1)with
  |.er c k=>zU s c k (fix (aJ n) m (stF s r (b+1) l st bg nn [] []))
  |.ok rs r2 b2=>∃ (m':Nat) (rs':List (List Pt)) (ts':List Pt),rs=rs'++[ts']/\m+r2.length<=m'+r.length /\
   fix (aJ n) m (stF s r (b+1) l st bg nn [] [])=fix (aJ n) m' (stF s r2 b2 l st bg nn rs' ts')
theorem yVu{rows:List UInt8->Nat->jL (List (List Pt))}{F0:Nat}(hs:s.length<200000)(hn:s.length+500<=n)(hgood:∀ r b,b+1<=9->F0<=b+1->uX r (b+1) (rows r (b+1)))(hrow:zTs n s rows F0){r:List UInt8}{b:Nat}{l:List Nd}{st0:List Fr}{G:Fr}{m:Nat}(h:r <:+ s)(hc:mY r=false)(hb:b<=9)(h0:F0<=b+1)(hl:l.length+3*r.length<600000)(hln:l.length+3*r.length+200<=n)(hF:G.2.2.2.1.length<700000)(hst:st0.length<=b)(hm:r.length<m):GOK n s l st0 G (lN rows r b) m r.length (fix (aJ n) m (eSt s r b l (st0++[G]))):=by
 cases r with
 |nil=>cases hc
 |cons c r1 =>
  simp only[mY,Bool.or_eq_false_iff,beq_eq_false_iff_ne]at hc;have hig:=Gm (rows:=rows) hb (by simp) (λr h=>hgood r b h h0) (r:=c::r1);obtain⟨m,rfl⟩:∃ k,m=k+1:=⟨m-1,by omega⟩;by_cases h40:c=40
  case neg =>
   refine yJr hn h (by omega) (by simp only[List.length_cons]at hl;omega) (by omega) h40 hc.2 hc.1 ?_;intro t r b' ho;rw[ho]at hig;have:=hig.2.1;have:=t.dN;simp only[List.length_cons]at *;omega
  subst h40;simp only[List.length_cons]at hl hln hm;have hs1:r1 <:+ s:=(List.suffix_cons 40 r1).trans h;have hop:=yJs (n:=n) (l:=l) (m:=m) (F:=st0++[G]) h (by omega) hb (by simp;omega);have hat:Bw rows (40::r1) b=bif b==9 then .er 41 (r1.length+1)
   else match rows r1 (b+1)with
    |.er e k=>.er e k
    |.ok rs r2 b2=>match r2 with
     |[]=>.er 41 (r1.length+1)
     |_::r3=>.ok (.group (dO rs) (b+1)) r3 b2:=by unfold Bw;rfl
  unfold lN at hig ⊢;rw[hat]at hig ⊢;by_cases h9:b=9
  ·rw[show(b==9)=true by simpa using h9];exact hop.1 h9
  ·rw[show(b==9)=false by simpa using h9]at hig ⊢;simp only[cond_false]at hig ⊢;rw[hop.2 h9];have hR:=hrow r1 b l (st0++[G]) (psn s (40::r1)) ((b+1:Nat):Int) m hs1 (by omega) h0 (by simp only[Wt,iM,szL];omega) (by simp only[Wt,iM,szL];omega) (by simp) (by simp;omega) (by omega);have hG:=hgood r1 b (by omega) h0;cases ho:rows r1 (b+1)with
   |er e k=>rw[ho]at hR;exact hR
   |ok rs r2 b2 =>
    rw[ho]at hR hG hig;obtain⟨m',rs',ts',hrs,hm',hfx⟩:=hR;obtain⟨g1,g2,g3,g4,g5,g6,g7,g8⟩:=hG;rw[hfx];have hne:ts'≠[]:=(g7 ts' (by rw[hrs];simp)).1;have hne':∀ x∈rs',x≠[]:=λx hx=>(g7 x (by rw[hrs];simp[hx])).1
    have hz:iM rs=iM rs'+szL ts':=by rw[hrs,Cx];simp[iM]
    have g1l:=g1.length_le;rcases g8 with rfl|⟨r3,rfl⟩
    ·simp only;obtain⟨m',rfl⟩:∃ k,m'=k+1:=⟨m'-1,by omega⟩;have:=zSu (n:=n) (s:=s) (l:=l) (st0:=st0) (G:=G) (b:=b2) (nn:=((b+1:Nat):Int)) (m:=m') (k:=r1.length+1) hne hne' (by simp only[Wt,List.length_nil]at *;omega) (by simp only[Wt,List.length_nil]at *;omega);exact this
    ·simp only at hig ⊢;simp only[List.length_cons]at g1l g2 hm';obtain⟨m',rfl⟩:∃ k,m'=k+1:=⟨m'-1,by omega⟩;have:=yAs (n:=n) (s:=s) (l:=l) (st0:=st0) (G:=G) (b:=b2) (bg:=psn s (40::r1)) (g:=b+1) (rs:=rs') (ts:=ts') (m:=m') (g1.trans hs1) (by omega) hne' (by simp only[Wt,List.length_cons]at *;omega) (by simp only[Wt,List.length_cons]at *;omega) (by omega) (by omega)
      (by
       intro t r b' ho2;have ht:=zGa (.group (dO (rs'++[ts'])) (b+1)) r3 b2;rw[ho2]at ht;have:=ht.1.length_le;omega)
     have h2:=this.2 hne;rw[<- hrs]at h2;unfold GOK at h2 ⊢;cases ho3:pK (.group (dO rs) (b+1)) r3 b2 with
     |er c k=>rw[ho3]at h2;exact h2
     |ok t r' b' =>
      rw[ho3]at h2;obtain⟨m'',k1,k2⟩:=h2;refine⟨m'',?_,k2⟩;simp only[List.length_cons];omega
theorem yRj{rows:List UInt8->Nat->jL (List (List Pt))}{F0:Nat}(hs:s.length<200000)(hn:s.length+500<=n)(hgood:∀ r b,b+1<=9->F0<=b+1->uX r (b+1) (rows r (b+1)))(hrow:zTs n s rows F0){l:List Nd}{st0:List Fr}{bg nn:Int}{rs:List (List Pt)}(hrs:∀ x∈rs,x≠[]):∀ (f:Nat) (r:List UInt8) (b:Nat) (acc:List Pt) (m:Nat),r <:+ s->b<=9->F0<=b+1->st0.length<=b->Wt l rs acc r<600000->Wt l rs acc r+200<=n->r.length<f->r.length<m ->
 match kT rows f r b acc with
 |.er c k=>zU s c k (fix (aJ n) m (stF s r b l st0 bg nn rs acc))
 |.ok ts r2 b2=>∃ m',m+r2.length<=m'+r.length/\fix (aJ n) m (stF s r b l st0 bg nn rs acc)=fix (aJ n) m' (stF s r2 b2 l st0 bg nn rs ts):=by
 intro f;induction f with
 |zero=>intro r b acc m _ _ _ _ _ _ h;omega
 |succ f ih =>
  intro r b acc m h hb h0 hst hw hwn hf hm;unfold kT;cases hc:mY r
  case true=>exact⟨m,by omega,rfl⟩
  simp only[cond_false];have hz:=Cz hrs;have hz2:=Bf acc;have hll:(l++dM l.length (rs.map dX++acc)).length=l.length+szA (rs.map dX)+szA acc:=by rw[List.length_append,mF,oL];omega
  have hit:=yVu hs hn hgood hrow (l:=l++dM l.length (rs.map dX++acc)) (st0:=st0) (G:=frm l.length bg nn rs acc) (m:=m) h hc hb h0 (by rw[hll];unfold Wt at hw;omega) (by rw[hll];unfold Wt at hwn;omega)
   (by rw[show(frm l.length bg nn rs acc).2.2.2.1.length=acc.length from oG _ _];unfold Wt at hw;omega) hst hm
  have hig:=Gm (rows:=rows) hb (show r≠[]by intro h;rw[h]at hc;cases hc) (λr h=>hgood r b h h0);cases ho:lN rows r b with
  |er e k=>rw[ho]at hit;exact hit
  |ok t r1 b1 =>
   rw[ho]at hit hig;obtain⟨m1,k1,k2⟩:=hit;obtain⟨g1,g2,g3,g4,g5,g6⟩:=hig;have hl:=g1.length_le;simp only;rw[k2,yOa];have e1:l++dM l.length (rs.map dX++acc)++t.enc (l++dM l.length (rs.map dX++acc)).length=l++dM l.length (rs.map dX++(acc++[t])):=by
    rw[<- List.append_assoc (as:=rs.map dX),wF,hll,oL,List.append_assoc,Nat.add_assoc]
   rw[e1];have hwt:Wt l rs (acc++[t]) r1<=Wt l rs acc r:=by
    unfold Wt;rw[zPb];simp only[szL];omega
   have:=ih r1 b1 (acc++[t]) m1 (g1.trans h) g4 (by omega) (by omega) (by omega) (by omega) (by omega) (by omega);cases ho2:kT rows f r1 b1 (acc++[t])with
   |er c k=>rw[ho2]at this;exact this
   |ok ts r2 b2 =>
    rw[ho2]at this;obtain⟨m2,j1,j2⟩:=this;exact⟨m2,by omega,j2⟩
theorem yJt{rows:List UInt8->Nat->jL (List (List Pt))}{F0:Nat}{top:Bool}(hs:s.length<200000)(hn:s.length+500<=n)(hgood:∀ r b,b+1<=9->F0<=b+1->uX r (b+1) (rows r (b+1)))(hrow:zTs n s rows F0){l:List Nd}{st0:List Fr}{bg nn:Int}(htop:top=true<->st0=[])(xAi:st0.length<1000):∀ (f:Nat) (r:List UInt8) (b:Nat) (acc:List (List Pt)) (m:Nat),(∀ x∈acc,x≠[])->r <:+ s->b<=9->F0<=b+1->st0.length<=b->Wt l acc [] r<600000->Wt l acc [] r+200<=n->r.length<f->r.length<m ->
 match Bz rows top f r b acc with
 |.er c k=>zU s c k (fix (aJ n) m (stF s r b l st0 bg nn acc []))
 |.ok rs r2 b2=>∃ (m':Nat) (rs':List (List Pt)) (ts':List Pt),rs=rs'++[ts']/\m+r2.length<=m'+r.length /\
  fix (aJ n) m (stF s r b l st0 bg nn acc [])=fix (aJ n) m' (stF s r2 b2 l st0 bg nn rs' ts'):=by
 intro f;induction f with
 |zero=>intro r b acc m _ _ _ _ _ _ _ h;omega
 |succ f ih =>
  intro r b acc m hacc h hb h0 hst hw hwn hf hm;unfold Bz;have hi:=yRj hs hn hgood hrow hacc (l:=l) (st0:=st0) (bg:=bg) (nn:=nn) (r.length+1) r b [] m h hb h0 hst hw hwn (by omega) hm;have hg:=Bh (rows:=rows) F0 hgood (r.length+1) r b [] hb h0 (by omega);cases ho:kT rows (r.length+1) r b []with
  |er e k=>rw[ho]at hi;exact hi
  |ok ts r2 b2 =>
   rw[ho]at hi hg;obtain⟨m1,j1,j2⟩:=hi;obtain⟨new,k1,k2,k3,k4,k5,k6,k7,k8⟩:=hg;rw[List.nil_append]at k1;subst k1;have hl:=k2.length_le;have hs2:=k2.trans h;obtain⟨m1,rfl⟩:∃ k,m1=k+1:=⟨m1-1,by omega⟩;have hwt:Wt l acc ts r2<=Wt l acc [] r:=by unfold Wt;simp only[szL];omega
   cases ts with
   |nil =>
    simp only;rw[j2];cases r2 with
    |nil =>
     have e:(bif top&&[41].isPrefixOf ([]:List UInt8)then 41 else 40)=40:=by simp[List.isPrefixOf]
     rw[e];exact zYt
    |cons c r3 =>
     simp only[mY,Bool.or_eq_true,beq_iff_eq]at k8;rcases k8 with rfl|rfl
     ·have e:(bif top&&[41].isPrefixOf ((124:UInt8)::r3)then 41 else 40)=40:=by simp[List.isPrefixOf]
      rw[e];exact(zYs hs2 (by omega) hacc (by omega) (by omega)).1 rfl
     ·cases htp:top
      ·have hne:st0≠[]:=λh=>by rw[htop.2 h]at htp;cases htp
       obtain⟨st1,G,rfl⟩:∃ st1 G,st0=st1++[G]:=by
        rcases List.eq_nil_or_concat st0 with rfl|⟨p,t,rfl⟩
        ·exact absurd rfl hne
        ·exact⟨p,t,by simp⟩
       have hlen1:st1.length<1000:=by simp at xAi;omega
       rw[bI (by omega),Nat.add_sub_cancel];have hf2:=(Vg (n:=n) (m:=m1) (st:=st1++[G]++[frm l.length bg nn acc []]) (b:=b2) (l:=l++dM l.length (acc.map dX++[])) hs2 (by omega)).2.2 rfl;rw[bI (by omega),Nat.add_sub_cancel]at hf2;rw[hf2];obtain⟨a,b',l',st',hr⟩:=zEk (n:=n) (s:=s) (r:=41::r3) (b:=b2) (l:=l) (st0:=st1++[G]) (bg:=bg) (nn:=nn) (rs:=acc);refine⟨a,b',l',st',?_⟩;unfold jG;simp only;rw[show((st1++[G]++[frm l.length bg nn acc []]).length+0:Nat)=st1.length+2 by simp,aC (by rw[beq_eq_false_iff_ne];omega),hr];rfl
      ·have xAj:=htop.1 htp;subst xAj;exact zRi hs2 (by omega)
   |cons t ts =>
    simp only;rw[j2];cases hp:[124].isPrefixOf r2
    case false =>
     simp only[cond_false];exact⟨m1+1,acc,t::ts,rfl,by omega,rfl⟩
    simp only[cond_true];obtain⟨r3,rfl⟩:=yVa hp;rw[(zYs hs2 (by omega) hacc (by omega) (by omega)).2 (by simp)];simp only[List.drop_succ_cons,List.drop_zero];simp only[List.length_cons]at *;have hacc':∀ x∈acc++[t::ts],x≠[]:=by
     intro x hx;rcases List.mem_append.1 hx with hx|hx
     ·exact hacc x hx
     ·rw[List.mem_singleton]at hx;subst hx;simp
    have xBo:Wt l (acc++[t::ts]) [] r3<=Wt l acc [] r:=by
     unfold Wt at hwt ⊢;rw[Cx];simp only[iM,szL,List.length_cons]at hwt ⊢;omega
    have:=ih r3 b2 (acc++[t::ts]) m1 hacc' ((List.suffix_cons _ _).trans hs2) k5 (by omega) (by omega) (by omega) (by omega) (by omega) (by omega);cases ho2:Bz rows top f r3 b2 (acc++[t::ts])with
    |er c k=>rw[ho2]at this;exact this
    |ok rs r' b' =>
     rw[ho2]at this;obtain⟨m2,rs',ts',q1,q2,q3⟩:=this;exact⟨m2,rs',ts',q1,by omega,q3⟩
theorem yVv(hs:s.length<200000)(hn:s.length+500<=n):∀ (f:Nat),zTs n s (mQ f false) (11-f):=by
 intro f;induction f with
 |zero=>intro r b l st bg nn m _ h9 h0;omega
 |succ f ih =>
  intro r b l st bg nn m h hb h0 hw hwn hst yNx hm;have:=yJt (rows:=mQ f false) (top:=false) (F0:=11-f) hs hn (λr b h1 h2=>zT f false r (b+1) (by omega) h1) ih (l:=l) (st0:=st) (bg:=bg) (nn:=nn) ⟨λh=>(by cases h),λh=>absurd h hst⟩ (by omega) (r.length+1) r (b+1) [] m (by simp) h hb (by omega) yNx hw hwn (by omega) hm;unfold mQ;exact this
theorem zYu(hs:s.length<150000)(hn:3*s.length+600<=n):vC n s=some (Qe (wL s)):=by
 unfold vC;simp only;cases hsv:s with
 |nil=>rfl
 |cons c s0 =>
  have he:wL (c::s0)=match mQ 11 true (c::s0) 0 with
   |.er e k=>.inr (e,(c::s0).length-k)
   |.ok rs r _ =>
    match r with
    |[]=>bif decide ((dO rs).sz>120)then .inr (2,0)else .inl (dO rs)
    |_=>.inr (41,(c::s0).length-r.length):=rfl
  rw[he,<- hsv];rw[aC (by rw[hsv];rfl)];have hb:=yJt (n:=n) (s:=s) (rows:=mQ 10 false) (top:=true) (F0:=11-10) (by omega) (by omega) (λr b h1 h2=>zT 10 false r (b+1) (by omega) h1) (yVv (by omega) (by omega) 10) (l:=[]) (st0:=[]) (bg:=0) (nn:=0) ⟨λ_=>rfl,λ_=>rfl⟩ (by simp) (s.length+1) s 0 [] n (by simp) (List.suffix_refl _) (by omega) (by omega) (by simp) (by simp only[Wt,iM,szL,List.length_nil];omega) (by simp only[Wt,iM,szL,List.length_nil];omega) (by omega) (by omega);have hr:mQ 11 true s 0=Bz (mQ 10 false) true (s.length+1) s 0 []:=rfl;have hgood:=zT 11 true s 0 (by omega) (by omega);rw[<- hr]at hb;have hst:stF s s 0 [] [] 0 0 [] []=(s,0,0,0,0,[],[(0,0,[],[],())],()):=by
   simp only[stF,eSt,frm,psn,Nat.sub_self];rfl
  have hw:vU n (s,0,0,0,0,[],[(0,0,[],[],())],())=fix (aJ n) n (stF s s 0 [] [] 0 0 [] []):=by rw[hst];rfl
  rw[hw];have Xp:∀ {c k:Nat}{e:Option (Bool × Er0)},zU s c k e->(ob e λy1=>br (!y1.1) (some (([]:List Nd),y1.2.2.2.2.2.1,y1.2.2.2.2.1)) (some (y1.2.2.2.2.2.2.1,0,0)))=some (Qe (.inr (c,s.length-k))):=by
   rintro c k e ⟨a,b',l',st',rfl⟩;rfl
  cases ho:mQ 11 true s 0 with
  |er e k=>rw[ho]at hb;exact Xp hb
  |ok rs r2 b2 =>
   rw[ho]at hb hgood;obtain⟨m',rs',ts',hrs,hm',hfx⟩:=hb;obtain⟨g1,g2,g3,g4,g5,g6,g7,g8⟩:=hgood;rw[hfx];have hne:ts'≠[]:=(g7 ts' (by rw[hrs];simp)).1;have hne':∀ x∈rs',x≠[]:=λx hx=>(g7 x (by rw[hrs];simp[hx])).1
   have hz:iM rs=iM rs'+szL ts':=by rw[hrs,Cx];simp[iM]
   have g1l:=g1.length_le;rcases g8 with rfl|⟨r3,rfl⟩
   ·obtain⟨m',rfl⟩:∃ k,m'=k+1:=⟨m'-1,by simp at hm';omega⟩;simp only[List.length_nil]at g2;have:=yOb (n:=n) (s:=s) (b:=b2) (bg:=0) (nn:=0) (rs:=rs') (ts:=ts') (m:=m') hne hne' (by simp only[Wt,List.length_nil];omega) (by simp only[Wt,List.length_nil];omega);simp only;rw[hrs]at *;by_cases zCw:(dO (rs'++[ts'])).sz<=120
    ·rw[if_pos zCw]at this;obtain⟨a,b',st',e,w,hh⟩:=this;rw[hh,show decide ((dO (rs'++[ts'])).sz>120)=false by simp;omega];rfl
    ·rw[if_neg zCw]at this;rw[show decide ((dO (rs'++[ts'])).sz>120)=true by simp;omega,Xp this,Nat.sub_self];rfl
   ·simp only[List.length_cons]at hm';obtain⟨m',rfl⟩:∃ k,m'=k+1:=⟨m'-1,by omega⟩;exact Xp (zRi g1 (by omega))
end
end Go.Dec
