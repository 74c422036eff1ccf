/- Part of a proof over this seat: a library of my own, and what it says of this seat. No statement is proved here. -/
import Derived.Test.YtfbilefiaminnaaGreatDoorPartAP
import Derived.Test.YtfbilefiaminnaaGreatDoorPartBJ
import Derived.Test.YtfbilefiaminnaaGreatDoorPartBK
import Derived.KernelRfl
namespace Go.Dec
variable {n:Nat}
theorem yLg{a b:Int}(h:a<=b):decide (a<=b)=true:=decide_eq_true h
theorem Gl{a b:Bool}(h:a=true)(h2:b=true):(a&&b)=true:=by rw[h,h2];rfl
theorem Ta{a b:Int}(h:0<=a)(h2:a<=b):(decide (0<=a)&&decide (a<=b))=true:=Gl (yLg h) (yLg h2)
theorem yLh{a b c:Int}(h:0<=a)(h1:a<=b)(h2:b<=c):(decide (0<=b)&&decide (b<=c)&&(decide (0<=a)&&decide (a<=b)))=true:=Gl (Ta (by omega) h2) (Ta h h1)
theorem yP{p:Prop}[Decidable p](h:decide p=true):p:=of_decide_eq_true h
theorem zJf{p:Prop}[Decidable p](h:decide p=false):¬ p:=of_decide_eq_false h
theorem Ph{s:List UInt8}{a:Int}(h0:0<=a)(h1:a<=s.length):lM n (s,a)=some (s.drop a.toNat,a):=by
 unfold lM;simp only;rw[show decide (a<0)=false from decide_eq_false (by omega),bO,show decide (a>(s.length:Int))=false from decide_eq_false (by omega),bO,Ta h0 h1,Dl]
def ySw:List Bool:=((List.replicate 256 false).set 32 true).set 9 true
def xEs:List Bool:=((((((((((List.replicate 256 false).set 48 true).set 49 true).set 50 true).set 51 true).set 52 true).set 53 true).set 54 true).set 55 true).set 56 true).set 57 true
theorem zRl:∃ t,(∀ m,strings_makeASCIISet (m+3) [32,9]=some (t,true))/\t.length=256:=⟨ySw,λm=>by kernel_rfl,by kernel_rfl⟩
theorem yLi:∃ t,(∀ m,strings_makeASCIISet (m+11) [48,49,50,51,52,53,54,55,56,57]=some (t,true))/\t.length=256:=⟨xEs,λm=>by kernel_rfl,by kernel_rfl⟩
theorem zTz(c:UInt8)(b:List Bool):gB n ((c.toNat:Int),b,())=some (b.getD c.toNat false,b,()):=by
 unfold gB;have h:=c.toNat_lt;simp only;rw[Hl (by simpa using h),Dl,Int.toNat_natCast,decide_eq_true (by simpa using h),Dl];rfl
theorem yOj(b:List Bool):∀ s:List UInt8,s.length<n->∃ t,strings_trimLeftASCII n (s,b,())=some (t,b,())/\t <:+ s:=by
 have key:∀ (m:Nat) (s:List UInt8),s.length<m->∃ t,fix (mK n) m (s,b,())=some (t,b,())/\t <:+ s:=by
  intro m;induction m with
  |zero=>intro s h;exact absurd h (Nat.not_lt_zero _)
  |succ m ih =>
   intro s hs;rw[En];unfold mK;simp only;cases s with
   |nil=>exact⟨[],rfl,List.suffix_refl _⟩
   |cons c r =>
    rw[show decide ((((c::r).length:Nat):Int)>0)=true from decide_eq_true (by rw[List.length_cons];omega),dO,dM (by omega) (by rw[List.length_cons];omega),Dl];rw[show aV 0 (c::r) 0=c from rfl,zTz,aN];simp only;cases b.getD c.toNat false with
    |false=>exact⟨_,rfl,List.suffix_refl _⟩
    |true =>
     rw[show(!true)=false from rfl,bO,Ta (by omega) (by rw[List.length_cons];omega),Dl];obtain⟨t,h1,h2⟩:=ih r (by rw[List.length_cons]at hs;omega);exact⟨t,h1,h2.trans (List.suffix_cons _ _)⟩
 intro s hs;exact key n s hs
theorem yOk(b:List Bool):∀ s:List UInt8,s.length<n->s.length<=999999->∃ t,strings_trimRightASCII n (s,b,())=some (t,b,())/\t.length<=s.length:=by
 have key:∀ (m:Nat) (s:List UInt8),s.length<m->s.length<1000000->∃ t,fix (rE n) m (s,b,())=some (t,b,())/\t.length<=s.length:=by
  intro m;induction m with
  |zero=>intro s h;exact absurd h (Nat.not_lt_zero _)
  |succ m ih =>
   intro s hs hb;rw[En];unfold rE;simp only;by_cases h0:s.length=0
   ·rw[show decide ((s.length:Int)>0)=false from decide_eq_false (by omega),bO];exact⟨_,rfl,aP _⟩
   ·rw[show decide ((s.length:Int)>0)=true from decide_eq_true (by omega),dO,bI (by omega) (by omega),dM (by omega) (by omega),Dl,zTz,aN];simp only;cases b.getD (aV 0 s ((s.length:Int)-1)).toNat false with
    |false=>exact⟨_,rfl,aP _⟩
    |true =>
     rw[show(!true)=false from rfl,bO,Ta (by omega) (by omega),Dl];have hl:(s.take ((s.length:Int)-1).toNat).length=s.length-1:=by rw[List.length_take];omega
     obtain⟨t,h1,h2⟩:=ih (s.take ((s.length:Int)-1).toNat) (by omega) (by omega);exact⟨t,h1,by omega⟩
 intro s hs hn;exact key n s hs (by omega)
theorem zVn{c d:UInt8}{cs:List UInt8}{k:Nat}(hk:k+1<=n)(ha:∃ t,(∀ m,strings_makeASCIISet (m+k) (c::d::cs)=some (t,true))/\t.length=256){s:List UInt8}(hs:s.length<n):∃ t,jP n (s,c::d::cs)=some t/\t <:+ s:=by
 obtain⟨b,ha,_⟩:=ha;obtain⟨t,h1,h2⟩:=yOj (n:=n) b s hs;have hm:=ha (n-k);rw[show n-k+k=n by omega]at hm;unfold jP;simp only;cases hz:s==[]with
 |true=>exact⟨s,rfl,List.suffix_refl _⟩
 |false =>
  rw[bO,show((c::d::cs)==[])=false from rfl,bO,show((((c::d::cs).length:Nat):Int)==1)=false from beq_eq_false_iff_ne.2 (by rw[List.length_cons,List.length_cons];omega),bO,hm,aN];simp only[dO];rw[h1,aN];exact⟨t,rfl,h2⟩
theorem yOl{c d:UInt8}{cs:List UInt8}{k:Nat}(hk:k+1<=n){s:List UInt8}(hn:s.length<=999999)(ha:∃ t,(∀ m,strings_makeASCIISet (m+k) (c::d::cs)=some (t,true))/\t.length=256)(hs:s.length<n):∃ t,kC n (s,c::d::cs)=some t/\t.length<=s.length:=by
 obtain⟨b,ha,_⟩:=ha;obtain⟨t,h1,h2⟩:=yOk (n:=n) b s hs hn;have hm:=ha (n-k);rw[show n-k+k=n by omega]at hm;unfold kC;simp only;cases hz:s==[]with
 |true=>exact⟨s,rfl,aP _⟩
 |false =>
  rw[bO,show((c::d::cs)==[])=false from rfl,bO,show((((c::d::cs).length:Nat):Int)==1)=false from beq_eq_false_iff_ne.2 (by rw[List.length_cons,List.length_cons];omega),bO,hm,aN];simp only[dO];rw[h1,aN];exact⟨t,rfl,h2⟩
variable {s:List UInt8}
variable {a:Int}
theorem zVo(hs:s.length+20<n)(hn:s.length<=900000)(h0:0<=a)(h1:a<=s.length):Ans (nA n (s,a)) λy=>a<=y/\y<=s.length:=by
 obtain⟨t,h2,h3⟩:=zVn (n:=n) (k:=3) (by omega) zRl (s:=s.drop a.toNat) (by rw[List.length_drop];omega);have hl:=h3.length_le;rw[List.length_drop]at hl;unfold nA;simp only;rw[Ph h0 h1,aN,h2,aN,bI (by omega) (by omega)];exact Ans.some ⟨by omega,by omega⟩
theorem zCt(b:List UInt8)(c:Int):∃ k,strings_IndexByte n (b,c)=some k:=⟨_,rfl⟩
theorem zVp(hs:s.length+20<n)(hn:s.length<=900000)(h0:0<=a)(h1:a<=s.length)(e:List UInt8)(m:Nat)(i0:Int)(hi:0<=i0)(hi1:i0<=((s.drop a.toNat).length:Int))(hm:((s.drop a.toNat).length:Int)-i0<m):Ans (fix (nK n) m (a,e,s.drop a.toNat,i0,())) λy=>a+i0<=y.2/\y.2<=s.length/\y.1.length<=s.length:=by
 have hdl:(s.drop a.toNat).length=s.length-a.toNat:=List.length_drop;refine Ans.loop (λx=>x.1=a/\x.2.1=e/\x.2.2.1=s.drop a.toNat/\i0<=x.2.2.2.1/\x.2.2.2.1<=((s.drop a.toNat).length:Int)) (λx=>(((s.drop a.toNat).length:Int)-x.2.2.2.1).toNat) ?_ m _ ⟨rfl,rfl,rfl,Int.le_refl _,hi1⟩ (by simp only;omega);rintro r ⟨t,e',rest,i,u⟩ ⟨ht,he,hrest,hi0,hi1⟩ hr;simp only at ht he hrest hi0 hi1 hr;subst ht he hrest;have fin:Ans (chk ((decide (0<=i)&&decide (i<=((s.drop t.toNat).length:Int)))) (ob (kC n ((s.drop t.toNat).take i.toNat,[32,9])) λy=>some (y,IntKind.wrap .i64 (t+i)))) λy:List UInt8 × Int=>t+i0<=y.2/\y.2<=s.length/\y.1.length<=s.length:=by
  obtain⟨u,h2,h3⟩:=yOl (n:=n) (k:=3) (by omega) (s:=(s.drop t.toNat).take i.toNat) (by rw[List.length_take,List.length_drop];omega) zRl (by rw[List.length_take,List.length_drop];omega);have hl:((s.drop t.toNat).take i.toNat).length<=(s.drop t.toNat).length:=by rw[List.length_take];omega
  refine Ans.chk (Ta (by omega) hi1) ?_;rw[h2,aN,bI (by omega) (by omega)];exact Ans.some ⟨by simp only;omega,by simp only;omega,by simp only;omega⟩
 unfold nK;simp only;refine Ans.br (λh=>?_) (λ_=>fin);have h:=yP h;refine Ans.chk (dM (by omega) (by omega)) (Ans.br (λ_=>Ans.chk (dM (by omega) (by omega)) ?_) (λ_=>fin));obtain⟨k,hk⟩:=zCt (n:=n) e' ((aV 0 (s.drop t.toNat) i).toNat:Int);rw[hk,aN];refine Ans.br (λ_=>?_) (λ_=>fin);rw[bI (by omega) (by omega)];exact hr _ ⟨rfl,rfl,rfl,by simp only;omega,by simp only;omega⟩ (by simp only;omega)
theorem yGu(hs:s.length+20<n)(hn:s.length<=900000)(h0:0<=a)(h1:a<=s.length)(e:List UInt8):Ans (rR n (s,a,e)) λy=>a<=y.2/\y.2<=s.length/\y.1.length<=s.length:=by
 unfold rR;simp only;rw[Ph h0 h1,aN];have hdl:(s.drop a.toNat).length=s.length-a.toNat:=List.length_drop;exact(zVp hs hn h0 h1 e n 0 (Int.le_refl _) (by omega) (by omega)).mono λy hy=>⟨by have:=hy.1;omega,hy.2⟩
theorem yOm(hs:s.length+20<n)(hn:s.length<=900000)(h0:0<=a)(hd:s[a.toNat]?=some 35):Ans (rR n (s,a,[])) λy=>a<y.2/\y.2<=s.length/\y.1.length<=s.length:=by
 have hlt:a.toNat<s.length:=(bE.1 hd).1;unfold rR;simp only;rw[Ph h0 (by omega),aN];have hdl:(s.drop a.toNat).length=s.length-a.toNat:=List.length_drop;have hg:aV 0 (s.drop a.toNat) 0=35:=by
  unfold aV;rw[List.getD_eq_getElem?_getD,List.getElem?_drop];simp only[Int.toNat_zero,Nat.add_zero,hd];rfl
 simp only;rw[lT (by omega:0<n)];rw[show nK n (fix (nK n) (n-1)) (a,[],s.drop a.toNat,0,())=fix (nK n) (n-1) (a,[],s.drop a.toNat,1,())from by
  unfold nK;simp only;rw[show decide ((0:Int)<((s.drop a.toNat).length:Int))=true from decide_eq_true (by omega),dO,dM (Int.le_refl _) (by omega),Dl,hg];rfl]
 exact(zVp hs hn h0 (by omega) [] (n-1) 1 (by decide) (by omega) (by omega)).mono λy hy=>⟨by have:=hy.1;omega,hy.2⟩
theorem yFe(hs:s.length+20<n)(hn:s.length<=900000)(h0:0<=a)(hd:s[a.toNat]?=some 35):nA n (s,a)=some a:=by
 have hlt:a.toNat<s.length:=(bE.1 hd).1;have hdl:(s.drop a.toNat).length=s.length-a.toNat:=List.length_drop;obtain⟨r,hr⟩:∃ r,s.drop a.toNat=35::r:=⟨s.drop (a.toNat+1),by rw[List.drop_eq_getElem_cons hlt];congr 1;exact(bE.1 hd).2⟩;have htr:jP n (35::r,[32,9])=some (35::r):=by
  have hm:strings_makeASCIISet n [32,9]=some (ySw,true):=by
   obtain⟨m,rfl⟩:∃ m,n=m+3:=⟨n-3,by omega⟩
   kernel_rfl
  unfold jP;simp only;rw[show(((35:UInt8)::r)==[])=false from rfl,bO,show(([32,9]:List UInt8)==[])=false from rfl,bO,show((([32,9]:List UInt8).length:Int)==1)=false from rfl,bO,hm,aN];simp only[dO];unfold strings_trimLeftASCII;simp only;rw[lT (by omega:0<n)];unfold mK;simp only;rw[show decide ((((35::r).length:Nat):Int)>0)=true from decide_eq_true (by rw[List.length_cons];omega),dO,dM (by omega) (by rw[List.length_cons];omega),Dl,show aV (0:UInt8) (35::r) 0=35 from rfl,zTz,aN];simp only;rw[show ySw.getD (35:UInt8).toNat false=false from by decide +kernel];rfl
 unfold nA;simp only;rw[Ph h0 (by omega),aN];simp only;rw[hr,htr,aN,<- hr,bI (by omega) (by omega)];exact congrArg some (by omega)
theorem yOn(hs:s.length+20<n)(hn:s.length<=900000)(h0:0<=a)(h1:a<=s.length):Ans (Dy n (s,a)) λy=>a<=y.2.1/\y.2.1<=s.length/\(y.2.2=0->a<y.2.1):=by
 obtain⟨t,h2,h3⟩:=zVn (n:=n) (k:=11) (by omega) yLi (s:=s.drop a.toNat) (by rw[List.length_drop];omega);have hl:=h3.length_le;have hd:(s.drop a.toNat).length=s.length-a.toNat:=List.length_drop;unfold Dy;simp only;rw[Ph h0 h1,aN];simp only;rw[h2,aN,bI (by omega) (by omega)];refine Ans.chk (Ta (by omega) (by omega)) ?_;have htk:((s.drop a.toNat).take (((s.drop a.toNat).length:Int)-(t.length:Int)).toNat).length<=(s.drop a.toNat).length:=by rw[List.length_take];omega
 have hp:∃ q,tX n ((s.drop a.toNat).take (((s.drop a.toNat).length:Int)-(t.length:Int)).toNat,10,64)=some q:=⟨_,by unfold tX;rw[show((10:Int)==10&&((64:Int)==64&&Nat.ble _ 281474976710656))=true from by simp only[beq_self_eq_true,Bool.true_and];exact Nat.ble_eq_true_of_le (by omega)];rfl⟩;obtain⟨q,hq⟩:=hp;generalize (s.drop a.toNat).take (((s.drop a.toNat).length:Int)-(t.length:Int)).toNat=T at htk hq ⊢;rw[hq,aN];refine Ans.br (λ_=>Ans.some ⟨Int.le_refl _,h1,λe=>by simp at e⟩) (λhT=>Ans.br (λ_=>Ans.some ⟨Int.le_refl _,h1,λe=>by simp at e⟩) (λ_=>Ans.br (λ_=>Ans.some ⟨Int.le_refl _,h1,λe=>by simp at e⟩) (λ_=>?_)));have hT:1<=T.length:=by cases T with|nil=>cases hT|cons a r=>simp
 rw[bI (x:=a+(T.length:Int)) (by omega) (by omega)];exact Ans.some ⟨by simp only;omega,by simp only;omega,λ_=>by simp only;omega⟩
end Go.Dec
namespace Go.Dec
variable {n:Nat}
def Bys (row:List Int):Prop := ∀ v ∈ row,0<=v ∧ v < 256
theorem yGv:Bys []:=λ_ h=>by cases h
theorem zUa{a b:List Int}(h:Bys a)(k:Bys b):Bys (a++b):=λv hv=>by
 rcases List.mem_append.1 hv with hv|hv
 ·exact h v hv
 ·exact k v hv
theorem yLj(s:List UInt8):Bys (eG s):=λv hv=>by
 obtain⟨c,_,rfl⟩:=List.mem_map.1 hv;have:=c.toNat_lt;exact⟨by omega,by omega⟩
theorem Xr(s:List UInt8):(eG s).length=s.length:=List.length_map ..
theorem Eo(r:List Int):(bN r).length=r.length:=List.length_map ..
theorem Ru{m k:Nat}(h:m*k<=100000000000):Nat.ble (m*k) room=true:=Nat.ble_eq_true_of_le (Nat.le_trans h (by decide))
theorem zYi{a:Nat}(h:a<=100000000000):decide (a<=qK)=true:=decide_eq_true (Nat.le_trans h (by decide))
theorem zKs(s t:List UInt8):∃ b,strings_HasPrefix n (s,t)=some b/\(b=true->t.length<=s.length):=by
 unfold strings_HasPrefix iB;simp only;by_cases h:t.length<=s.length
 ·rw[show decide ((s.length:Int)≥(t.length:Int))=true from decide_eq_true (by omega),dO,show(decide (0<=(t.length:Int))&&true)=true from (Bool.and_true _).trans (yLg (by omega)),Dl,aN];exact⟨_,rfl,λ_=>h⟩
 ·rw[show decide ((s.length:Int)≥(t.length:Int))=false from decide_eq_false (by omega),bO,aN];exact⟨_,rfl,λh=>by cases h⟩
theorem zOj{t:List UInt8}{row:List Int}(h:row.length+t.length<=10000000):eP n (t,row,())=some ((t.length:Int),false,row++eG t,()):=by
 unfold eP Iy;simp only[aN];rw[Ru (by omega),Dl]
theorem zUb{row:List Int}(h:Bys row):Builder_String n (row,())=some (bN row,[],()):=by
 unfold Builder_String;simp only;rw[show(row.all λv=>decide (0<=v)&&decide (v<256))=true from List.all_eq_true.2 λv hv=>Gl (yLg (h v hv).1) (decide_eq_true (h v hv).2),Dl]
theorem ySx{one b:List UInt8}{row:List Int}(hr:Bys row)(hb:b.length<=one.length)(ho:one.length<=10)(hl:row.length<=1000000):Ans (sH n (one,b,row,())) λy=>y.2.1=b/\Bys y.2.2.1/\y.2.2.1.length<=row.length+one.length:=by
 have stay:∀ q,Ans (some (q,b,row,()):Option (Bool × Sc6)) λy=>y.2.1=b/\Bys y.2.2.1/\y.2.2.1.length<=row.length+one.length:=λq=>Ans.some ⟨rfl,hr,Nat.le_add_right _ _⟩
 unfold sH;simp only;refine Ans.br (λ_=>stay _) (λ_=>Ans.br (λ_=>stay _) (λ_=>Ans.br (λ_=>stay _) (λ_=>Ans.chk (zYi (by rw[List.length_singleton];omega)) (Ans.br (λ_=>?_) (λ_=>?_)))))
 ·rw[zOj (by omega),aN];exact Ans.some ⟨rfl,zUa hr (yLj _),by simp only[List.length_append,Xr];omega⟩
 ·rw[zOj (by omega),aN];exact Ans.some ⟨rfl,zUa hr (yLj _),by simp only[List.length_append,Xr];omega⟩
theorem yGw{s:List UInt8}{i k:Int}(h0:0<=i)(hk:0<=k)(h1:i+k<=s.length):((s.take (i+k).toNat).drop i.toNat).length=k.toNat:=by rw[List.length_drop,List.length_take];omega
theorem yOo{s b:List UInt8}(hs:s.length<n)(hs2:s.length<=100000)(hb:b.length=1):Ans (kG n (s,b,[],())) λy=>0<=y.1/\y.1<=s.length/\y.2.1=b/\Bys y.2.2.1/\y.2.2.1.length<=s.length:=by
 unfold kG;refine Ans.loop (λx=>x.1=s/\0<=x.2.1/\x.2.1<=(s.length:Int)/\x.2.2.1=b/\Bys x.2.2.2.1/\(x.2.2.2.1.length:Int)<=x.2.1) (λx=>((s.length:Int)-x.2.1).toNat) ?_ n _ ⟨rfl,Int.le_refl _,by simp only;omega,rfl,yGv,Int.le_refl _⟩ (by simp only;omega);rintro r ⟨s',i,b',row,u⟩ ⟨h1,h2,h3,h4,h5,h6⟩ hr;simp only at h1 h2 h3 h4 h5 h6 hr;subst h1 h4;have go:∀ k:Int,(k=1\/k=2)->i+k<=s'.length->Ans (chk ((decide (0<=IntKind.wrap .i64 (i+k))&&decide (IntKind.wrap .i64 (i+k)<=(s'.length:Int))&&(decide (0<=i)&&decide (i<=IntKind.wrap .i64 (i+k))))) (ob (sH n ((s'.take (IntKind.wrap .i64 (i+k)).toNat).drop i.toNat,b',row,())) λy=>br (!y.1) (some (i,y.2.1,y.2.2.1,())) (r (s',IntKind.wrap .i64 (i+k),y.2.1,y.2.2.1,())))) λy:Int × Sc6=>0<=y.1/\y.1<=s'.length/\y.2.1=b'/\Bys y.2.2.1/\y.2.2.1.length<=s'.length:=by
  intro k hk hik;have hk0:0<=k/\k<=2/\1<=k:=by omega
  rw[bI (x:=i+k) (by omega) (by omega)];refine Ans.chk (yLh h2 (by omega) hik) ?_;have hl:=yGw h2 hk0.1 hik;refine Ans.ob (λy:Bool × Sc6=>y.2.1=b'/\Bys y.2.2.1/\y.2.2.1.length<=row.length+k.toNat) ((ySx h5 (by omega) (by omega) (by omega)).mono λy hy=>by rw[hl]at hy;exact hy) ?_;rintro y ⟨g1,g2,g3⟩;refine Ans.br (λ_=>Ans.some ⟨h2,h3,g1,g2,by simp only;omega⟩) (λ_=>hr _ ⟨rfl,by simp only;omega,hik,g1,g2,by simp only;omega⟩ (by simp only;omega))
 unfold wG;simp only;refine Ans.br (λh=>?_) (λ_=>Ans.some ⟨h2,h3,rfl,h5,by simp only;omega⟩);have h:=yP h;refine Ans.chk (dM h2 (by omega)) (Ans.br (λ_=>?_) (λ_=>go 1 (.inl rfl) (by omega)));refine Ans.br (λh'=>go 2 (.inr rfl) ?_) (λ_=>go 1 (.inl rfl) (by omega));have h':=yP h';rw[bI (by omega) (by omega)]at h';omega
theorem yXb{s:List UInt8}{a d:Int}(hs:s.length+20<n)(hs2:s.length<=100000)(h0:0<=a)(h1:a<=s.length):Ans (Lj n (s,a,d)) λy=>a<=y.2.1/\y.2.1<=s.length/\y.1.length<=s.length:=by
 have hl1:(bN [d]).length=1:=by rw[Eo];rfl
 have bad:Ans (some (([]:List UInt8),a,(120:Int))) λy=>a<=y.2.1/\y.2.1<=s.length/\y.1.length<=s.length:=Ans.some ⟨Int.le_refl _,h1,Nat.zero_le _⟩
 unfold Lj;simp only;rw[Ph h0 h1,aN];refine Ans.br (λ_=>bad) (λ_=>Ans.br (λ_=>bad) (λ_=>?_));have hd:(s.drop a.toNat).length=s.length-a.toNat:=List.length_drop;refine Ans.ob _ (yOo (n:=n) (s:=s.drop a.toNat) (b:=bN [d]) (by omega) (by omega) hl1) ?_;rintro⟨k,b,row,u⟩ ⟨g1,g2,g3,g4,g5⟩;simp only at g1 g2 g3 g4 g5;subst g3;refine Ans.chk (Ta g1 g2) ?_;obtain⟨q,hq,hq2⟩:=zKs (n:=n) ((s.drop a.toNat).drop k.toNat) (bN [d]);rw[hq,aN];refine Ans.br (λ_=>bad) (λh=>?_);have hq2:=hq2 (by cases q<;>simp_all);rw[hl1,List.length_drop]at hq2;rw[zUb g4,aN,bI (x:=a+k) (by omega) (by omega),bI (by omega) (by omega)];exact Ans.some ⟨by simp only;omega,by simp only;omega,by simp only[Eo];omega⟩
theorem ySy{one:List UInt8}{row:List Int}(hr:Bys row)(ho:one.length<=10)(ho1:1<=one.length)(hl:row.length<=1000000):Ans (sJ n (one,row,())) λy=>Bys y.2.1/\y.2.1.length<=row.length+one.length:=by
 have stay:Ans (some (false,row,()):Option (Bool × List Int × Unit)) λy=>Bys y.2.1/\y.2.1.length<=row.length+one.length:=Ans.some ⟨hr,Nat.le_add_right _ _⟩
 unfold sJ;simp only;refine Ans.br (λ_=>stay) (λ_=>Ans.br (λ_=>stay) (λ_=>?_));rw[bI (by omega) (by omega)];refine Ans.chk (Ta (by omega) (by omega)) ?_;rw[zOj (by rw[List.length_drop];omega),aN];exact Ans.some ⟨zUa hr (yLj _),by simp only[List.length_append,Xr,List.length_drop];omega⟩
theorem yOp{s:List UInt8}(hs:s.length<n)(hs2:s.length<=100000):Ans (kH n (s,[],())) λy=>0<=y.1/\y.1<=s.length/\Bys y.2.1/\y.2.1.length<=s.length:=by
 unfold kH;refine Ans.loop (λx=>x.1=s/\0<=x.2.1/\x.2.1<=(s.length:Int)/\Bys x.2.2.1/\(x.2.2.1.length:Int)<=x.2.1) (λx=>((s.length:Int)-x.2.1).toNat) ?_ n _ ⟨rfl,Int.le_refl _,by simp only;omega,yGv,Int.le_refl _⟩ (by simp only;omega);rintro r ⟨s',i,row,u⟩ ⟨h1,h2,h3,h5,h6⟩ hr;simp only at h1 h2 h3 h5 h6 hr;subst h1;have go:∀ k:Int,(k=1\/k=2)->i+k<=s'.length->Ans (chk ((decide (0<=IntKind.wrap .i64 (i+k))&&decide (IntKind.wrap .i64 (i+k)<=(s'.length:Int))&&(decide (0<=i)&&decide (i<=IntKind.wrap .i64 (i+k))))) (ob (sJ n ((s'.take (IntKind.wrap .i64 (i+k)).toNat).drop i.toNat,row,())) λy=>br (!y.1) (some (i,y.2.1,())) (r (s',IntKind.wrap .i64 (i+k),y.2.1,())))) λy:Int × List Int × Unit=>0<=y.1/\y.1<=s'.length/\Bys y.2.1/\y.2.1.length<=s'.length:=by
  intro k hk hik;have hk0:0<=k/\k<=2/\1<=k:=by omega
  rw[bI (x:=i+k) (by omega) (by omega)];refine Ans.chk (yLh h2 (by omega) hik) ?_;have hl:=yGw h2 hk0.1 hik;refine Ans.ob (λy:Bool × List Int × Unit=>Bys y.2.1/\y.2.1.length<=row.length+k.toNat) ((ySy h5 (by omega) (by omega) (by omega)).mono λy hy=>by rw[hl]at hy;exact hy) ?_;rintro y ⟨g2,g3⟩;refine Ans.br (λ_=>Ans.some ⟨h2,h3,g2,by simp only;omega⟩) (λ_=>hr _ ⟨rfl,by simp only;omega,hik,g2,by simp only;omega⟩ (by simp only;omega))
 unfold wH;simp only;refine Ans.br (λh=>?_) (λ_=>Ans.some ⟨h2,h3,h5,by simp only;omega⟩);have h:=yP h;refine Ans.chk (dM h2 (by omega)) (Ans.br (λ_=>?_) (λ_=>go 1 (.inl rfl) (by omega)));refine Ans.br (λh'=>go 2 (.inr rfl) ?_) (λ_=>go 1 (.inl rfl) (by omega));have h':=yP h';rw[bI (by omega) (by omega)]at h';omega
theorem yXc{s:List UInt8}{a:Int}(hs:s.length+20<n)(hs2:s.length<=100000)(h0:0<=a)(h1:a<=s.length):Ans (Lu n (s,a)) λy=>a<=y.2.1/\y.2.1<=s.length/\y.1.length<=s.length+1:=by
 unfold Lu;simp only;rw[Ph h0 h1,aN];have hd:(s.drop a.toNat).length=s.length-a.toNat:=List.length_drop;refine Ans.ob _ (yOp (n:=n) (s:=s.drop a.toNat) (by omega) (by omega)) ?_;rintro⟨k,row,u⟩ ⟨g1,g2,g4,g5⟩;simp only at g1 g2 g4 g5;refine Ans.chk (Ta g1 g2) ?_;obtain⟨q,hq,_⟩:=zKs (n:=n) ((s.drop a.toNat).drop k.toNat) [92];rw[hq,aN];have hk:(bN row).length=row.length:=Eo _;refine Ans.br (λ_=>Ans.some ⟨Int.le_refl _,h1,Nat.zero_le _⟩) (λ_=>Ans.br (λh=>?_) (λ_=>?_))
 ·have h:k<((s.drop a.toNat).length:Int):=yP h;rw[zUb g4,aN,bI (x:=k+1) (by omega) (by omega)];refine Ans.chk (zYi (by simp only[List.length_singleton];omega)) ?_;rw[bI (by omega) (by omega)];exact Ans.some ⟨by simp only;omega,by simp only;omega,by simp only[List.length_append,List.length_singleton];omega⟩
 ·rw[zUb g4,aN];refine Ans.chk (zYi (by simp only[List.length_singleton];omega)) ?_;rw[bI (by omega) (by omega)];exact Ans.some ⟨by simp only;omega,by simp only;omega,by simp only[List.length_append,List.length_singleton];omega⟩
end Go.Dec
namespace Go.Dec
variable {n:Nat}
abbrev zYj:Type:=List UInt8 × Int × Unit
theorem yCv{b:List UInt8}{row:List zYj}(hl:row.length<=1000000):Ans (qD n (b,row,())) λy=>y.2.1.length<=row.length+1/\y.1=[]:=by
 unfold qD;simp only;refine Ans.br (λ_=>Ans.chk (Ru (by simp only[List.length_singleton];omega)) (Ans.some ⟨by simp only[List.length_append,List.length_singleton];omega,rfl⟩)) (λ_=>Ans.some ⟨by simp only;omega,rfl⟩)
theorem ySz{s:List UInt8}(hs:s.length<n)(hs2:s.length<=100000):Ans (Ig n s) λy=>y.1.length<=2*s.length+1:=by
 unfold Ig;refine Ans.loop (λx=>x.1=s/\0<=x.2.1/\x.2.1<=(s.length:Int)/\(x.2.2.1.length:Int)<=x.2.1/\(x.2.2.2.1.length:Int)<=2*x.2.1) (λx=>((s.length:Int)-x.2.1).toNat) ?_ n _ ⟨rfl,Int.le_refl _,by simp only;omega,Int.le_refl _,Int.le_refl _⟩ (by simp only;omega);rintro r ⟨s',i,b,row,u⟩ ⟨h1,h2,h3,h5,h6⟩ hr;simp only at h1 h2 h3 h5 h6 hr;subst h1;have bad:∀ (k:Int),Ans (some (([]:List zYj),k,(90:Int))) λy=>y.1.length<=2*s'.length+1:=λk=>Ans.some (Nat.zero_le _)
 have lay:∀ (c k:Int),(k=1\/k=2)->i+k<=s'.length->Ans (chk (decide (b.length+(bN [c]).length<=qK)) (r (s',i+k,b++bN [c],row,()))) λy=>y.1.length<=2*s'.length+1:=by
  intro c k hk hik;have hc:(bN [c]).length=1:=by rw[Eo];rfl
  refine Ans.chk (zYi (by omega)) (hr _ ⟨rfl,by simp only;omega,hik,by simp only[List.length_append,hc];omega,by simp only;omega⟩ (by simp only;omega))
 have part:∀ (c k:Int),(k=1\/k=2)->i+k<=s'.length->Ans (ob (qD n (b,row,())) λy=>chk (Nat.ble ((y.2.1.length+([([],(c,()))]:List zYj).length)*24) room) (r (s',i+k,y.1,y.2.1++[([],(c,()))],()))) λy=>y.1.length<=2*s'.length+1:=by
  intro c k hk hik;refine Ans.ob _ (yCv (n:=n) (b:=b) (row:=row) (by omega)) ?_;rintro⟨b2,Lh,u2⟩ ⟨g1,g2⟩;simp only at g1 g2;subst g2;refine Ans.chk (Ru (by simp only[List.length_singleton];omega)) (hr _ ⟨rfl,by simp only;omega,hik,by simp only[List.length_nil];omega,by simp only[List.length_append,List.length_singleton];omega⟩ (by simp only;omega))
 have w1:IntKind.wrap .i64 (i+1)=i+1:=bI (by omega) (by omega);have w2:IntKind.wrap .i64 (i+1+1)=i+2:=by rw[bI (by omega) (by omega)];omega
 unfold Td;simp only[w1,w2];refine Ans.br (λh=>?_) (λ_=>?_)
 ·have h:=yP h;refine Ans.chk (dM h2 (by omega)) (Ans.br (λ_=>part 0 1 (.inl rfl) (by omega)) (λ_=>Ans.br (λ_=>bad _) (λ_=>Ans.br (λ_=>lay _ 1 (.inl rfl) (by omega)) (λ_=>Ans.br (λ_=>bad _) (λhne=>?_)))));have hne:i+1≠s'.length:=by simpa using hne
  have tail:Ans (br ((((aV 0 s' (i+1)).toNat:Int))==110) (chk (decide (b.length+(bN [10]).length<=qK)) (r (s',i+2,b++bN [10],row,()))) (ob (strings_IndexByte n ([10,92,38,47],((aV 0 s' (i+1)).toNat:Int))) λy=>br (decide (y<0)) (some ([],IntKind.wrap .i64 (i+1-1),90)) (chk (decide (b.length+(bN [((aV 0 s' (i+1)).toNat:Int)]).length<=qK)) (r (s',i+2,b++bN [((aV 0 s' (i+1)).toNat:Int)],row,()))))) λy=>y.1.length<=2*s'.length+1:=by
   refine Ans.br (λ_=>lay _ 2 (.inr rfl) (by omega)) (λ_=>?_);obtain⟨k,hk⟩:=zCt (n:=n) [10,92,38,47] ((aV 0 s' (i+1)).toNat:Int);rw[hk,aN];exact Ans.br (λ_=>bad _) (λ_=>lay _ 2 (.inr rfl) (by omega))
  refine Ans.chk (dM (by omega) (by omega)) (Ans.br (λ_=>Ans.br (λ_=>part _ 2 (.inr rfl) (by omega)) (λ_=>tail)) (λ_=>tail))
 ·refine Ans.ob _ (yCv (n:=n) (b:=b) (row:=row) (by omega)) ?_;rintro⟨b2,Lh,u2⟩ ⟨g1,g2⟩;exact Ans.some (by simp only at g1 ⊢;omega)
theorem yXd{l:List zYj}(hl:l.length<n)(hl2:l.length<=1000000):Ans (Ll n l) λ_=>True:=by
 unfold Ll;refine Ans.loop (λx=>x.2.1=l/\x.2.2.1=(l.length:Int)/\0<=x.2.2.2.1/\x.2.2.2.1<=(l.length:Int)) (λx=>((l.length:Int)-x.2.2.2.1).toNat) ?_ n _ ⟨rfl,rfl,Int.le_refl _,by simp only;omega⟩ (by simp only;omega);rintro r ⟨m,l',t,i,u⟩ ⟨h1,h2,h3,h4⟩ hr;simp only at h1 h2 h3 h4 hr;subst h1 h2;unfold Wm;simp only;refine Ans.br (λh=>Ans.chk (dM h3 (by have:=yP h;omega)) ?_) (λ_=>Ans.some trivial);have h:=yP h;rw[bI (by omega) (by omega)];exact hr _ ⟨rfl,rfl,by simp only;omega,by simp only;omega⟩ (by simp only;omega)
theorem zVq{s:List UInt8}(hs:s.length<n)(hs2:s.length<=100000):Ans (Bu n s) λy=>y.1.length<=s.length:=by
 unfold Bu;refine Ans.loop (λx=>x.1=s/\0<=x.2.1/\x.2.1<=(s.length:Int)/\(x.2.2.1.length:Int)<=x.2.1) (λx=>((s.length:Int)-x.2.1).toNat) ?_ n _ ⟨rfl,Int.le_refl _,by simp only;omega,Int.le_refl _⟩ (by simp only;omega);rintro r ⟨s',i,row,u⟩ ⟨h1,h2,h3,h5⟩ hr;simp only at h1 h2 h3 h5 hr;subst h1;have bad:Ans (some (([]:List UInt8),i,(100:Int))) λy=>y.1.length<=s'.length:=Ans.some (Nat.zero_le _)
 have w1:IntKind.wrap .i64 (i+1)=i+1:=bI (by omega) (by omega);have w2:IntKind.wrap .i64 (i+1+1)=i+2:=by rw[bI (by omega) (by omega)];omega
 have lay:∀ (c k:Int),(k=1\/k=2)->i+k<=s'.length->Ans (chk (Nat.ble ((row.length+([c]:List (Int)).length)*1) room) (r (s',i+k,row++[c],()))) λy=>y.1.length<=s'.length:=by
  intro c k hk hik;exact Ans.chk (Ru (by simp only[List.length_singleton];omega)) (hr _ ⟨rfl,by simp only;omega,hik,by simp only[List.length_append,List.length_singleton];omega⟩ (by simp only;omega))
 unfold Te;simp only[w1,w2];refine Ans.br (λh=>?_) (λ_=>Ans.some (by simp only[Eo];omega));have h:=yP h;refine Ans.chk (dM h2 (by omega)) (Ans.br (λ_=>bad) (λ_=>Ans.br (λ_=>Ans.br (λ_=>bad) (λhne=>?_)) (λ_=>lay _ 1 (.inl rfl) (by omega))));have hne:i+1≠s'.length:=by simpa using hne
 refine Ans.chk (dM (by omega) (by omega)) ?_;obtain⟨k,hk⟩:=zCt (n:=n) [110,92,47] ((aV 0 s' (i+1)).toNat:Int);rw[hk,aN];exact Ans.br (λ_=>bad) (λ_=>Ans.chk (dM (by omega) (by omega)) (Ans.br (λ_=>lay _ 2 (.inr rfl) (by omega)) (λ_=>lay _ 2 (.inr rfl) (by omega))))
theorem yXe(hn:300<=n):Ans (Lr n ()) λ_=>True:=by
 unfold Lr;refine Ans.loop (λx=>0<=x.1/\x.1<=256) (λx=>(256-x.1).toNat) ?_ n _ ⟨Int.le_refl _,by decide⟩ (by simp only;omega);rintro r ⟨i,row,u⟩ ⟨h1,h2⟩ hr;simp only at h1 h2 hr;unfold Wo;simp only;refine Ans.br (λh=>?_) (λ_=>Ans.some trivial);have h:=yP h;refine Ans.chk (dM h1 (by omega)) (Ans.chk (decide_eq_true (by omega)) ?_);rw[bI (x:=i+1) (by omega) (by omega)];exact hr _ ⟨by simp only;omega,by simp only;omega⟩ (by simp only;omega)
theorem yXf{a b:List UInt8}(hn:300<=n)(ha:a.length<n)(ha2:a.length<=100000):Ans (Ls n (a,b)) λ_=>True:=by
 unfold Ls;simp only;refine Ans.br (λ_=>Ans.some trivial) (λhab=>Ans.ob _ (yXe hn) ?_);have hab:a.length=b.length:=by simp at hab;omega
 rintro y _;refine Ans.loop (λx=>x.1=a/\x.2.1=b/\x.2.2.1=(a.length:Int)/\0<=x.2.2.2.1/\x.2.2.2.1<=(a.length:Int)) (λx=>((a.length:Int)-x.2.2.2.1).toNat) ?_ n _ ⟨rfl,rfl,rfl,Int.le_refl _,by simp only;omega⟩ (by simp only;omega);rintro r ⟨a',b',t,i,c1,c2,c3,u⟩ ⟨h1,h2,h3,h4,h5⟩ hr;simp only at h1 h2 h3 h4 h5 hr;subst h1 h2 h3;unfold Wp;simp only;refine Ans.br (λh=>?_) (λ_=>Ans.some trivial);have h:=yP h;have hc:=(aV 0 a' i).toNat_lt;have hc1:inB ((aV 0 a' i).toNat:Int) 256=true:=Hl (by simpa using hc);have hc2:decide (((aV 0 a' i).toNat:Int).toNat<256)=true:=decide_eq_true (by rw[Int.toNat_natCast];simpa using hc);refine Ans.chk (dM h4 (by omega)) (Ans.chk hc1 (Ans.chk hc2 (Ans.br (λ_=>Ans.some trivial) (λ_=>Ans.chk (dM h4 (by omega)) (Ans.chk hc1 (Ans.chk hc2 (Ans.chk hc1 (Ans.chk hc2 ?_))))))));rw[bI (x:=i+1) (by omega) (by omega)];exact hr _ ⟨rfl,rfl,rfl,by simp only;omega,by simp only;omega⟩ (by simp only;omega)
theorem yOq(a:Int × Int × Int × Unit):Ans (wU n a) λ_=>True:=by
 unfold wU;simp only;refine Ans.br (λ_=>Ans.some trivial) (λh1=>Ans.br (λ_=>Ans.some trivial) (λh2=>?_));have h1:=zJf h1;have h2:=zJf h2;refine Ans.chk (dM (by omega) (by omega)) (Ans.chk (decide_eq_true (by omega)) (Ans.br (λ_=>Ans.chk (dM (by decide) (by decide)) (Ans.chk (by decide) (Ans.br (λ_=>Ans.br (λ_=>Ans.chk (dM (by decide) (by decide)) (Ans.chk (by decide) (Ans.some trivial))) (λ_=>Ans.some trivial)) (λ_=>Ans.some trivial)))) (λ_=>Ans.some trivial)))
theorem yOr(r:(Int × Int × Int × Unit) × (Int × Int × Int × Unit) × Bool × Unit):Ans (Oc n r) λ_=>True:=by
 unfold Oc;simp only;refine Ans.ob _ (yOq _) λy _=>Ans.br (λ_=>Ans.some trivial) (λ_=>Ans.ob _ (yOq _) λy _=>Ans.br (λ_=>Ans.some trivial) (λ_=>Ans.br (λ_=>Ans.some trivial) (λ_=>Ans.br (λ_=>Ans.some trivial) (λ_=>Ans.br (λ_=>Ans.some trivial) (λ_=>Ans.br (λ_=>Ans.some trivial) (λ_=>Ans.some trivial))))))
end Go.Dec
