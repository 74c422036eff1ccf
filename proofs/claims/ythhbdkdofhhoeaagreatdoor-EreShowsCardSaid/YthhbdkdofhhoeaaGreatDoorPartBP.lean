/- Part of a proof over this seat: a library of my own, and what it says of this seat. No statement is proved here. -/
import Derived.Test.YthhbdkdofhhoeaaGreatDoorPartBO
import Derived.Test.YthhbdkdofhhoeaaGreatDoorPartBJ
namespace Go.Dec
def dW:List UInt8:=[93,91,92,94,45,10]
def Ba:List UInt8:=[46,91,92,42,94,36]
def Oe (c:UInt8):List UInt8:=bif c==10 then [92,110] else bif Ba.contains c then [92,c] else [c]
def iO:List UInt8->List (List UInt8)
 |[]=>[]
 |c::r=>match iO r with
  |(d::x)::rest=>bif d==c+1 then(c::d::x)::rest else [c]::(d::x)::rest
  |rest=>[c]::rest
def qG (r:List UInt8):List UInt8:=bif decide (r.length > 2) then r.take 1++[45]++r.drop (r.length - 1) else r
theorem Ka(c:UInt8)(r:List UInt8):∃ x rest,iO (c::r)=(c::x)::rest:=by
 unfold iO;split
 ·rename_i d x rest h;cases d==c+1
  ·exact⟨_,_,rfl⟩
  ·exact⟨_,_,rfl⟩
 ·exact⟨_,_,rfl⟩
def zHv (out:List (List UInt8)) (b:Bool) (c:UInt8):List (List UInt8) :=bif b then out.set (out.length - 1) (out.getD (out.length - 1) []++[c]) else out++[[c]]
theorem zCl:∀ (s:List UInt8) (l c:UInt8),iO (s++[l,c])=zHv (iO (s++[l])) (c==l+1) c
 |[],l,c=>by
  simp only[List.nil_append,iO,zHv];cases c==l+1<;>rfl
 |a::s,l,c=>by
  have ih:=zCl s l c;simp only[List.cons_append]at ih ⊢;obtain⟨h,t,hs⟩:∃ h t,s++[l]=h::t:=by cases s with
   |nil=>exact⟨_,_,rfl⟩
   |cons h t=>exact⟨_,_,rfl⟩
  have hs2:s++[l,c]=h::(t++[c]):=by rw[show [l,c]=[l]++[c]from rfl,<- List.append_assoc,hs];rfl
  obtain⟨x,rest,e1⟩:=Ka h t;rw[hs2,hs]at ih ⊢;rw[e1]at ih;have hcc:∀ r,iO (a::r)=(match iO r with
   |(d::x)::rest=>bif d==a+1 then(a::d::x)::rest else [a]::(d::x)::rest
   |rest=>[a]::rest):=λ_=>rfl
  rw[hcc,hcc,e1,ih];unfold zHv;cases hb:c==l+1
  ·simp only[cond_false,List.cons_append];cases h==a+1<;>simp
  ·simp only[cond_true];cases rest with
   |nil =>
    simp only[List.length_cons,List.length_nil,Nat.zero_add,Nat.sub_self,List.set_cons_zero,List.getD_cons_zero,List.cons_append];cases h==a+1<;>simp
   |cons r1 rest =>
    simp only[List.length_cons,Nat.add_sub_cancel,List.set_cons_succ,List.getD_cons_succ];cases h==a+1<;>simp
section
variable {n:Nat}
theorem zFz{s:List UInt8}:∀ {s:List UInt8},(iO s).length<=s.length:=by
 intro s;induction s with
 |nil=>exact aQ _
 |cons c r ih =>
  unfold iO;split
  ·rename_i d x rest h;rw[h]at ih;simp only[List.length_cons]at ih ⊢;cases d==c+1<;>simp<;>omega
  ·simp only[List.length_cons];omega
theorem Er:∀ s:List UInt8,(iO s).flatten=s
 |[]=>rfl
 |c::r=>by
  have ih:=Er r;unfold iO;split
  ·rename_i d x rest h;rw[h]at ih;simp only[List.flatten_cons,List.cons_append]at ih;cases d==c+1
   ·simp[<- ih]
   ·simp[<- ih]
  ·simp only[List.flatten_cons,List.singleton_append];rw[ih]
theorem zVl{s r:List UInt8}(h:r∈iO s):r.length<=s.length:=by
 have h2:=Er s;have:∀ (l:List (List UInt8)),r∈l->r.length<=l.flatten.length:=by
  intro l;induction l with
  |nil=>intro h;simp at h
  |cons a l ih =>
   intro h;simp only[List.flatten_cons,List.length_append];rcases List.mem_cons.1 h with rfl|h
   ·omega
   ·have:=ih h;omega
 have:=this _ h;rw[h2]at this;exact this
theorem yBy{s:List UInt8}(hs:s.length<n)(hs2:s.length<100000)(hasc:∀ i,i+1<s.length->(s.getD i 0).toNat+1<256):Gi n s=some (iO s):=by
 unfold Gi;simp only;have hlen:∀ r:List UInt8,(iO r).length<=r.length:=λr=>zFz (s:=[])
 have key:∀ k i m,i+k=s.length->k<m->fix (uL n) m (s,(s.length:Int),(i:Int),iO (s.take i),())=some (iO s):=by
  intro k;induction k with
  |zero =>
   intro i m hi hm;rw[dD hm,uL];simp only;rw[aS (by simp;omega),List.take_of_length_le (by omega)]
  |succ k ih =>
   intro i m hi hm;have hil:i<s.length:=by omega
   have hit:s.take (i+1)=s.take i++[s[i]]:=by rw[List.take_add_one,List.getElem?_eq_getElem hil];rfl
   have hi1:IntKind.wrap .i64 ((i:Int)+1)=((i+1:Nat):Int):=by rw[bZ (by omega) (by omega)];rfl
   have hcut:(s.take (i+1)).drop i=[s[i]]:=by
    rw[hit,List.drop_append_of_le_length (by rw[List.length_take];omega),List.drop_of_length_le (by rw[List.length_take];omega)];rfl
   have hrl:=hlen (s.take i);have htl:(s.take i).length=i:=by rw[List.length_take];omega
   rw[htl]at hrl;have ih:=ih (i+1) (m-1) (by omega) (by omega);rw[hit]at ih;rw[dD (by omega),uL];simp only;rw[bD (by simp;omega),hi1];cases i with
   |zero =>
    simp only[List.take_zero,iO,List.nil_append]at ih ⊢;rw[aS (by rfl),aC (by simp;omega),Int.toNat_natCast,Int.toNat_natCast,hcut,aC (by simp[room])];exact ih
   |succ j =>
    have hjl:j<s.length:=by omega
    have hjt:s.take (j+1)=s.take j++[s[j]]:=by rw[List.take_add_one,List.getElem?_eq_getElem hjl];rfl
    rw[hjt]at ih hrl ⊢;rw[List.append_assoc,List.singleton_append,zCl]at ih;obtain⟨x,rest,e1⟩:∃ x rest,iO (s.take j++[s[j]])=x::rest:=by
     obtain⟨a,b,hh⟩:=List.exists_cons_of_ne_nil (show s.take j++[s[j]]≠[]from λh=>by have:=congrArg List.length h;rw[List.length_append,List.length_cons]at this;simp only[List.length_nil]at this;omega);rw[hh];obtain⟨x,rest,h⟩:=Ka a b;exact⟨_,_,h⟩
    generalize hR:iO (s.take j++[s[j]])=R at *;have hRp:1<=R.length:=by rw[e1];simp
    have hv7:IntKind.wrap .i64 ((R.length:Int)-1)=((R.length-1:Nat):Int):=by rw[bZ (by omega) (by omega)];omega
    have hj1:IntKind.wrap .i64 (((j+1:Nat):Int)-1)=(j:Int):=by rw[bZ (by omega) (by omega)];omega
    have hb:=hasc j (by omega);rw[List.getD_eq_getElem?_getD,List.getElem?_eq_getElem hjl]at hb;simp only[Option.getD_some]at hb;have hw:IntKind.wrap .u8 ((s[j].toNat:Int)+1)=((s[j].toNat+1:Nat):Int):=by rw[IntWalk.u8_in _ (by omega)];rfl
    rw[hv7,bD (by simp),aC (qR hil),qI hil,hj1,aC (qR hjl),qI hjl,hw];have he:((s[j+1].toNat:Int)==((s[j].toNat+1:Nat):Int))=(s[j+1]==s[j]+1):=by
     rw[Bool.eq_iff_iff,beq_iff_eq,beq_iff_eq,<- UInt8.toNat_inj,UInt8.toNat_add];have:(1:UInt8).toNat=1:=rfl;rw[this,Nat.mod_eq_of_lt hb];omega
    rw[he];unfold zHv at ih;cases hc:s[j+1]==s[j]+1
    ·rw[hc]at ih;simp only[cond_false]at ih;rw[bR,aC (by simp;omega),Int.toNat_natCast,Int.toNat_natCast,hcut,aC (by simp[room];omega)];exact ih
    ·rw[hc]at ih;simp only[cond_true]at ih;rw[dK,aC (by rw[qR (by omega)];simp),Int.toNat_natCast,Nat.zero_add,aC (by simp;omega),show Ty.dflt .str=([]:List UInt8)from rfl,aC (by simp;omega),Int.toNat_natCast,Int.toNat_natCast,hcut];have hRl:(R.getD (R.length-1) []).length<=s.length:=by
      rw[List.getD_eq_getElem?_getD,List.getElem?_eq_getElem (by omega)];simp only[Option.getD_some];have:=zVl (s:=s.take j++[s[j]]) (r:=R[R.length-1]) (by rw[hR];exact List.getElem_mem _);rw[<- hjt,htl]at this;omega
     rw[aC (by exact decide_eq_true (by simp only[aH,List.length_cons,List.length_nil];omega)),aC (by rw[qR (by omega)];simp),aC (by simp;omega)];exact ih
 exact key s.length 0 n (by omega) (by omega)
end
def nU (q:Nat->Bool):Nat->Nat->Nat | 0,k=>k | f+1,k=>bif decide (k+1 < 256)&&q (k+1) then nU q f (k+1) else k
def dG(q:Nat->Bool):Nat->Nat->List UInt8
 |0,_=>[]
 |f+1,i=>if i<256 then(bif q i then(bif decide (i+2<=nU q 256 i)then [UInt8.ofNat i,45,UInt8.ofNat (nU q 256 i)]++dG q f (nU q 256 i+1)else [UInt8.ofNat i]++dG q f (i+1))else dG q f (i+1))else []
theorem Iu(q:Nat->Bool):∀ (f k:Nat),k<256->256-k<=f->k<=nU q f k/\nU q f k<256/\(∀ j,k<j->j<=nU q f k->q j=true)/\(nU q f k+1=256\/q (nU q f k+1)=false)
 |0,k,h1,h2=>by omega
 |f+1,k,h1,h2=>by
  unfold nU;cases hc:decide (k+1<256)&&q (k+1)
  ·simp only[cond_false];refine⟨aQ _,h1,λj a b=>by omega,?_⟩;simp only[Bool.and_eq_false_iff,decide_eq_false_iff_not]at hc;rcases hc with hc|hc
   ·left;omega
   ·right;exact hc
  ·simp only[cond_true];simp only[aF,decide_eq_true_eq]at hc;obtain⟨a1,a2,a3,a4⟩:=Iu q f (k+1) hc.1 (by omega);refine⟨by omega,a2,λj b c=>?_,a4⟩;by_cases hj:j=k+1
   ·rw[hj];exact hc.2
   ·exact a3 j (by omega) c
def mJ(i m:Nat):List UInt8:=(List.range' i m).map UInt8.ofNat
def gQ(q:Nat->Bool)(i:Nat):List UInt8:=((List.range' i (256-i)).filter q).map UInt8.ofNat
theorem ofNat_succ{i:Nat}:UInt8.ofNat i+1=UInt8.ofNat (i+1):=by
 rw[<- UInt8.toNat_inj,UInt8.toNat_add];simp
theorem zMd(rest:List UInt8):∀ (m i:Nat),(∀ d r,rest=d::r->(d==UInt8.ofNat (i+m+1))=false)->iO (mJ i (m+1)++rest)=mJ i (m+1)::iO rest
 |0,i,h=>by
  have e:mJ i 1=[UInt8.ofNat i]:=rfl;rw[Nat.zero_add,e,List.singleton_append];cases rest with
  |nil=>rfl
  |cons d r =>
   obtain⟨x,rest,e1⟩:=Ka d r;have hd:=h d r rfl;rw[Nat.add_zero,<- ofNat_succ]at hd;rw[iO,e1];simp only[hd,cond_false]
 |m+1,i,h=>by
  have e:∀ m,mJ i (m+1)=UInt8.ofNat i::mJ (i+1) m:=λm=>by simp[mJ,List.range'_succ]
  have ih:=zMd rest m (i+1) (λd r hr=>by have:=h d r hr;rw[show i+1+m+1=i+(m+1)+1 by omega];exact this);have e2:mJ (i+1) (m+1)=UInt8.ofNat (i+1)::mJ (i+1+1) m:=by simp[mJ,List.range'_succ]
  rw[e (m+1),List.cons_append,iO,ih,e2];simp only[ofNat_succ,beq_self_eq_true,cond_true]
theorem zZd{q:Nat->Bool}{i:Nat}(hi:i<256)(h:q i=false):gQ q i=gQ q (i+1):=by
 unfold gQ;rw[show 256-i=(256-(i+1))+1 by omega,List.range'_succ,List.filter_cons_of_neg (by simp[h])]
theorem zGa{q:Nat->Bool}:∀ (m i:Nat),i+m<=256->(∀ j,i<=j->j<i+m->q j=true)->gQ q i=mJ i m++gQ q (i+m)
 |0,i,_,_=>by simp[mJ]
 |m+1,i,h1,h2=>by
  have ih:=zGa m (i+1) (by omega) (λj a b=>h2 j (by omega) (by omega));have e:gQ q i=UInt8.ofNat i::gQ q (i+1):=by
   unfold gQ;rw[show 256-i=(256-(i+1))+1 by omega,List.range'_succ,List.filter_cons_of_pos (h2 i (by omega) (by omega)),List.map_cons]
  rw[e,ih,show i+(m+1)=i+1+m by omega];simp[mJ,List.range'_succ]
theorem zSn{q:Nat->Bool}{i:Nat}{d:UInt8}{r:List UInt8}(h:gQ q i=d::r):∃ j,i<=j/\j<256/\d=UInt8.ofNat j/\q j=true:=by
 have hm:d∈gQ q i:=by rw[h];simp
 unfold gQ at hm;obtain⟨j,hj,rfl⟩:=List.mem_map.1 hm;obtain⟨h1,h2⟩:=List.mem_filter.1 hj;rw[List.mem_range'_1]at h1;exact⟨j,h1.1,by omega,rfl,h2⟩
theorem Og(i m:Nat):(mJ i m).length=m:=by simp[mJ]
theorem zZe{i j:Nat}(hi:i<256)(hj:j<256)(h:i≠j):(UInt8.ofNat i==UInt8.ofNat j)=false:=by
 rw[Bool.eq_false_iff,ne_eq,beq_iff_eq,<- UInt8.toNat_inj,UInt8.toNat_ofNat',UInt8.toNat_ofNat'];omega
theorem Tq(q:Nat->Bool):∀ (n i f:Nat),256-i<=n->256-i<f->((iO (gQ q i)).map qG).flatten=dG q f i:=by
 intro n;induction n with
 |zero =>
  intro i f h hf;obtain⟨f,rfl⟩:∃ k,f=k+1:=⟨f-1,by omega⟩;have e:gQ q i=[]:=by unfold gQ;rw[show 256-i=0 by omega];rfl
  rw[e];unfold dG;rw[if_neg (by omega)];rfl
 |succ n ih =>
  intro i f h hf;obtain⟨f,rfl⟩:∃ k,f=k+1:=⟨f-1,by omega⟩;by_cases hi:i<256
  case neg =>
   have e:gQ q i=[]:=by unfold gQ;rw[show 256-i=0 by omega];rfl
   rw[e];unfold dG;rw[if_neg hi];rfl
  unfold dG;rw[if_pos hi];cases hq:q i
  ·simp only[cond_false];rw[zZd hi hq];exact ih (i+1) f (by omega) (by omega)
  ·simp only[cond_true];obtain⟨a1,a2,a3,a4⟩:=Iu q 256 i hi (by omega);generalize hk:nU q 256 i=k at *;have hrest:∀ (m:Nat),i+m=k->∀ d r,gQ q (k+1)=d::r->(d==UInt8.ofNat (i+m+1))=false:=by
    intro m hm d r hr;obtain⟨j,b1,b2,rfl,b4⟩:=zSn hr;rw[hm];refine zZe b2 (by omega) ?_;intro hj;subst hj;rcases a4 with a4|a4
    ·omega
    ·rw[a4]at b4;simp at b4
   have hF:=zGa (q:=q) (k-i+1) i (by omega) (λj c1 c2=>by
    by_cases hj:j=i
    ·rw[hj];exact hq
    ·exact a3 j (by omega) (by omega))
   rw[show i+(k-i+1)=k+1 by omega]at hF;have hR:=zMd (gQ q (k+1)) (k-i) i (hrest (k-i) (by omega));rw[hF,hR,List.map_cons,List.flatten_cons,ih (k+1) f (by omega) (by omega)];by_cases h2:i+2<=k
   ·rw[decide_eq_true h2];simp only[cond_true];have hs:qG (mJ i (k-i+1))=[UInt8.ofNat i,45,UInt8.ofNat k]:=by
     unfold qG;rw[Og,decide_eq_true (show k-i+1>2 by omega)];simp only[cond_true,Nat.add_sub_cancel];have h1:(mJ i (k-i+1)).take 1=[UInt8.ofNat i]:=by simp[mJ,List.range'_succ]
     have h3:(mJ i (k-i+1)).drop (k-i)=[UInt8.ofNat k]:=by
      have:mJ i (k-i+1)=mJ i (k-i)++[UInt8.ofNat k]:=by
       unfold mJ;rw[List.range'_concat,List.map_append,Nat.one_mul,show i+(k-i)=k by omega];rfl
      rw[this,List.drop_append_of_le_length (by rw[Og];omega),List.drop_of_length_le (by rw[Og];omega)];rfl
     rw[h1,h3];rfl
    rw[hs]
   ·rw[decide_eq_false h2];simp only[cond_false];have hs:qG (mJ i (k-i+1))=mJ i (k-i+1):=by
     unfold qG;rw[Og,decide_eq_false (show ¬ k-i+1>2 by omega)];rfl
    rw[hs];by_cases h0:k=i
    ·subst h0;rw[Nat.sub_self];rfl
    ·have h1:k=i+1:=by omega
     subst h1;rw[show i+1-i+1=2 by omega,show mJ i 2=[UInt8.ofNat i,UInt8.ofNat (i+1)]from rfl];obtain⟨f,rfl⟩:∃ k,f=k+1:=⟨f-1,by omega⟩;have hq1:=a3 (i+1) (by omega) (by omega);have hend:nU q 256 (i+1)=i+1:=by
      unfold nU;rcases a4 with a4|a4
      ·rw[show decide (i+1+1<256)=false from decide_eq_false (by omega)];rfl
      ·rw[a4,Bool.and_false];rfl
     have hsc:dG q (f+1) (i+1)=[UInt8.ofNat (i+1)]++dG q f (i+1+1):=by
      rw[dG,if_pos (by omega),hq1,hend];simp only[cond_true];rw[decide_eq_false (by omega)];rfl
     rw[hsc];have hfu:dG q (f+1) (i+1+1)=dG q f (i+1+1):=by
      rw[<- ih (i+1+1) (f+1) (by omega) (by omega),<- ih (i+1+1) f (by omega) (by omega)]
     rw[hfu];rfl
end Go.Dec
namespace Go.Dec
theorem zVm:((List.range 256).all λi=>decide (cK .u8 .and (i:Int) 63=((i % 64:Nat):Int)))=true:=by decide +kernel
theorem Bc{x k:Nat}(hk:k<64):gT .u64 (x:Int) (k:Int)=((x / 2 ^ k:Nat):Int):=by
 unfold gT;rw[Int.toNat_natCast,show IntKind.u64.bits=64 from rfl,Nat.min_eq_left (show k<=64 by omega)];rw[show((2:Int) ^ k)=((2 ^ k:Nat):Int)by simp];rw[Int.fdiv_eq_ediv_of_nonneg _ (Int.natCast_nonneg _)];exact(Int.natCast_ediv x (2 ^ k)).symm
theorem zCm{n:Nat}(p:Nat->Bool){c:Nat}(hc:c<256):rZ n (wd p,(c:Int))=some (p c):=by
 unfold rZ;simp only;have h1:=yEg hc;have h2:=kD zVm hc;simp only[decide_eq_true_eq]at h2;rw[aC (by decide),h1.1,aC (qR (i:=c / 64) (n:=4) (by omega)),aC (by simp;omega),Int.toNat_natCast,h2,aC (by simp;omega)];have hk:c / 64=0\/c / 64=1\/c / 64=2\/c / 64=3:=by omega
 have hg:(wd p).getD (c / 64) (Ty.dflt (.int .u64))=((mH p (c / 64):Nat):Int):=by
  rcases hk with h|h|h|h<;>rw[h]<;>rfl
 rw[hg,Bc (by omega)];have hlt:=jP p (c / 64);rw[show(1:Int)=((1:Nat):Int)from rfl,zSb (Nat.lt_of_le_of_lt (Nat.div_le_self _ _) hlt) (by omega)];have ht:=uD p (c / 64) (c % 64);rw[decide_eq_true (show c % 64<64 by omega),Bool.true_and,show 64*(c / 64)+c % 64=c by omega]at ht;rw[<- ht,Nat.testBit_eq_decide_div_mod_eq];congr 1;rw[Nat.and_one_is_mod,Bool.eq_iff_iff,beq_iff_eq,decide_eq_true_eq];omega
def aU (p:Nat->Bool):Nat->Bool:=fun i=>p i&&!(dW.contains (UInt8.ofNat i))
def wQ (p:Nat->Bool):List UInt8:=(bif p 10 then [92,110] else [])++((bif p 91 then [91] else [])++((bif p 92 then [92] else [])++((bif p 94 then [94] else [])++((bif p 45 then [45] else [])++[93]))))
def Iw (p:Nat->Bool):List UInt8:=[91]++(bif p 93 then [93] else [])
def wR (p:Nat->Bool):List UInt8:=Iw p++dG (aU p) 257 0++wQ p
def iX(p:Nat->Bool):List UInt8 :=
 match aT p with
 |[]=>[]
 |[c]=>Oe c
 |l=>bif l.length==256 then [46]else bif l==[45,94]then [91,45,94,93]else wR p
theorem zVn(l:List UInt8):dZ (bF l)=l:=by
 simp[dZ,bF,List.map_map,Function.comp_def]
theorem zVo:((List.range 256).all λi=>decide (Go.Lib.indexByte dW (UInt8.ofNat i)<0)==!(dW.contains (UInt8.ofNat i)))=true:=by decide +kernel
theorem zMe:((List.range 256).all λi=>decide (Go.Lib.indexByte Ba (UInt8.ofNat i)≥0)==Ba.contains (UInt8.ofNat i))=true:=by decide +kernel
theorem apart_eq{n:Nat}{ρ:Type}(d:UInt8)(X Y:Option ρ):(ob (strings_IndexByte n ([93,91,92,94,45,10],(d.toNat:Int))) λy=>br (decide (y<0)) X Y)=bif !(dW.contains d)then X else Y:=by
 have:=kD zVo d.toNat_lt;rw[beq_iff_eq,Bt]at this;unfold strings_IndexByte;simp only[bA,Int.toNat_natCast];rw[show(d.toNat).toUInt8=d from Bt d,<- zLj,<- this];rfl
theorem yBz{n:Nat}(d:UInt8):Gh n (d.toNat:Int)=some (Oe d):=by
 have:=kD zMe d.toNat_lt;rw[beq_iff_eq,Bt]at this;unfold Gh Oe;simp only;have hb:dZ [(d.toNat:Int)]=[d]:=by simp[dZ]
 rw[show((d.toNat:Int)==10)=(d==10)by rw[zSf];exact eqI 10];unfold strings_IndexByte;simp only[bA,Int.toNat_natCast];rw[show(d.toNat).toUInt8=d from Bt d,hb];cases d==10
 ·simp only[bR,cond_false];rw[show([46,91,92,42,94,36]:List UInt8)=Ba from rfl,this,aC (by simp[aH]),zLj];cases Ba.contains d<;>rfl
 ·rfl
theorem zVp(r:List UInt8):(qG r).length<=r.length:=by
 unfold qG;by_cases h:r.length>2
 ·rw[decide_eq_true h];simp;omega
 ·rw[decide_eq_false h];exact aQ _
theorem Oh:∀ l:List (List UInt8),((l.map qG).flatten).length<=l.flatten.length
 |[]=>aQ _
 |a::l=>by have:=Oh l;have:=zVp a;simp only[List.map_cons,List.flatten_cons,List.length_append];omega
theorem zCn(p:Nat->Bool):(aT p).filter (λc=>!(dW.contains c))=gQ (aU p) 0:=by
 unfold aT gQ aU;rw[List.filter_map,List.filter_filter,<- List.range_eq_range'];congr 1;apply List.filter_congr;intro i _;simp only[Function.comp,Bool.and_comm]
theorem zVq(q:Nat->Bool):∀ i,i+1<(gQ q 0).length->((gQ q 0).getD i 0).toNat+1<256:=by
 intro i hi;have hp:(List.range' 0 256).Pairwise (· < ·):=List.pairwise_lt_range';have hq:((List.range' 0 256).filter q).Pairwise (· < ·):=hp.filter q;rw[List.pairwise_iff_getElem]at hq;unfold gQ at hi ⊢;rw[Nat.sub_zero]at hi ⊢;rw[List.length_map]at hi;have h:=hq i (i+1) (by omega) hi (by omega);have hm:((List.range' 0 256).filter q)[i+1]∈(List.range' 0 256).filter q:=List.getElem_mem _;have hm2:=(List.mem_filter.1 hm).1;rw[List.mem_range'_1]at hm2;rw[List.getD_eq_getElem?_getD,List.getElem?_map,List.getElem?_eq_getElem (by omega)];simp only[Option.map_some,Option.getD_some,UInt8.toNat_ofNat'];omega
theorem zGb(q:Nat->Bool):(gQ q 0).length<=256:=by
 unfold gQ;rw[List.length_map];have:=List.length_filter_le q (List.range' 0 256);simpa using this
section
variable {n:Nat}
theorem zSo{b:List UInt8}{p:Nat->Bool}(hn:10<=n)(hb:b.length<1000):fix (mR n) n (b,(([[10],[91],[92],[94],[45]]:List (List UInt8)).length:Int),0,wd p,[[10],[91],[92],[94],[45]],())=some (b++wQ p):=by
 obtain⟨n,rfl⟩:∃ m,n=m+6:=⟨n-6,by omega⟩;have has:∀ c:Nat,c<256->rZ (n+6) (wd p,(c:Int))=some (p c):=λc hc=>zCm p hc
 have h10:=has 10 (by omega);have h91:=has 91 (by omega);have h92:=has 92 (by omega);have h94:=has 94 (by omega);have h45:=has 45 (by omega);have step:∀ (m:Nat) (b:List UInt8) (i:Nat) (c:UInt8),i<5->b.length<1010->([[10],[91],[92],[94],[45]]:List (List UInt8)).getD i []=[c]->c.toNat<256 ->
  fix (mR (n+6)) (m+1) (b,5,(i:Int),wd p,[[10],[91],[92],[94],[45]],())=fix (mR (n+6)) m (b++(bif p c.toNat then(bif c==10 then [92,110]else [c])else []),5,((i+1:Nat):Int),wd p,[[10],[91],[92],[94],[45]],()):=by
  intro m b i c hi hb hc hc2;rw[dD (by omega),mR];simp only;rw[bD (by simp;omega),aC (by rw[qR (by exact hi)];rfl),Int.toNat_natCast,Nat.zero_add,aC (by simp;omega),show Ty.dflt .str=([]:List UInt8)from rfl,hc];rw[aC (by rfl),show bE 0 [c] 0=c from rfl,has c.toNat hc2];simp only[bA,Nat.add_sub_cancel];rw[bZ (by omega) (by omega),show(i:Int)+1=((i+1:Nat):Int)from rfl];rw[show([c]==[10])=(c==10)by simp];cases hp:p c.toNat
  ·simp only[bR,cond_false,List.append_nil];first|rfl|(rw[aC (by rfl)];done)|(rw[aC (by rfl),show bE 0 [c] 0=c from rfl,has c.toNat hc2,hp];rfl)
  ·simp only[dK,cond_true];cases c==10
   ·simp only[bR,cond_false];rw[aC (by rfl),aC (by simp[aH];omega)]
   ·simp only[dK,cond_true];rw[aC (by simp[aH];omega)]
 have l1:∀ (x:Bool) (y:List UInt8),y.length<=2->(bif x then y else []).length<=2:=by intro x y h;cases x<;>simp[h]
 rw[show(([[10],[91],[92],[94],[45]]:List (List UInt8)).length:Int)=5 from rfl,show(0:Int)=((0:Nat):Int)from rfl];have hlen:∀ (b:List UInt8) (k:Nat) (c:UInt8),b.length<k->(b++(bif p c.toNat then(bif c==10 then [92,110]else [c])else [])).length<k+2:=by
  intro b k c h;rw[List.length_append];cases p c.toNat<;>cases c==10<;>simp<;>omega
 have b1:=hlen b 1000 10 hb;have b2:=hlen _ 1002 91 b1;have b3:=hlen _ 1004 92 b2;have b4:=hlen _ 1006 94 b3;have b5:=hlen _ 1008 45 b4;rw[step (n+5) b 0 10 (by omega) (by omega) rfl (by decide),step (n+4) _ 1 91 (by omega) (by omega) rfl (by decide),step (n+3) _ 2 92 (by omega) (by omega) rfl (by decide),step (n+2) _ 3 94 (by omega) (by omega) rfl (by decide),step (n+1) _ 4 45 (by omega) (by omega) rfl (by decide)];rw[dD (by omega),mR];simp only;rw[aS (by rfl),aC (by exact decide_eq_true (Nat.le_trans (Nat.add_le_add_right (Nat.le_of_lt b5) _) (by decide)))];simp only[wQ,List.append_assoc];rfl
theorem zSp{b0:List UInt8}{p:Nat->Bool}{rs:List (List UInt8)}(hn:400<=n)(hb:b0.length<=2)(hrs:rs.flatten.length<=256)(hrl:rs.length<=256):fix (pX n) n (b0,rs,(rs.length:Int),0,wd p,())=some (b0++(rs.map qG).flatten++wQ p):=by
 have hl:∀ i,((rs.take i).map qG).flatten.length<=256:=by
  intro i;have h1:=Oh (rs.take i);have h2:(rs.take i).flatten.length<=rs.flatten.length:=by
   have:rs.flatten=(rs.take i).flatten++(rs.drop i).flatten:=by rw[<- List.flatten_append,List.take_append_drop]
   rw[this,List.length_append];omega
  omega
 have key:∀ k i m,i+k=rs.length->k<m->fix (pX n) m (b0++((rs.take i).map qG).flatten,rs,(rs.length:Int),(i:Int),wd p,())=some (b0++(rs.map qG).flatten++wQ p):=by
  intro k;induction k with
  |zero =>
   intro i m hi hm;have:=hl rs.length;rw[List.take_of_length_le (aQ _)]at this;rw[dD hm,pX];simp only;rw[aS (by simp;omega),List.take_of_length_le (by omega)];exact zSo (by omega) (by rw[List.length_append];omega)
  |succ k ih =>
   intro i m hi hm;have hil:i<rs.length:=by omega
   have hli:=hl i;have Oi:=hl (i+1);have htk:rs.take (i+1)=rs.take i++[rs[i]]:=by rw[List.take_add_one,List.getElem?_eq_getElem hil];rfl
   have ih:=ih (i+1) (m-1) (by omega) (by omega);rw[htk,List.map_append,List.flatten_append]at ih Oi;simp only[List.map_cons,List.map_nil,List.flatten_cons,List.flatten_nil,List.append_nil]at ih Oi;rw[List.length_append]at Oi;have hri:rs[i].length<=256:=by
    have:∀ (l:List (List UInt8)) (r:List UInt8),r∈l->r.length<=l.flatten.length:=by
     intro l r;induction l with
     |nil=>intro h;simp at h
     |cons a l ih =>
      intro h;simp only[List.flatten_cons,List.length_append];rcases List.mem_cons.1 h with rfl|h
      ·omega
      ·have:=ih h;omega
    have:=this rs rs[i] (List.getElem_mem _);omega
   rw[dD (by omega),pX];simp only;rw[bD (by simp;omega),aC (qR hil),qI hil,bZ (x:=(i:Int)+1) (by omega) (by omega),show(i:Int)+1=((i+1:Nat):Int)from rfl];unfold qG at ih Oi;by_cases h2:rs[i].length>2
   ·rw[decide_eq_true h2]at ih Oi;simp only[cond_true]at ih Oi;rw[bD (by simp;omega),aC (by simp;omega),show(1:Int).toNat=1 from rfl,aC (by simp[aH];omega),bZ (by omega) (by omega),aC (by simp;omega)];rw[show((rs[i].length:Int)-1).toNat=rs[i].length-1 by omega];rw[aC (by simp[aH];omega),aC (by rw[List.length_append,List.length_append];exact decide_eq_true (by simp only[aH];simp only[List.length_append]at Oi ⊢;omega))];rw[List.append_assoc b0];exact ih
   ·rw[decide_eq_false h2]at ih Oi;simp only[cond_false]at ih Oi;rw[aS (by simp;omega),aC (by rw[List.length_append];exact decide_eq_true (by simp only[aH];omega))];rw[List.append_assoc b0];exact ih
 have:=key rs.length 0 n (by omega) (by omega);simpa using this
theorem zCo{b0:List UInt8}{p:Nat->Bool}(hn:400<=n)(hb:b0.length<=2):mU n (aT p,b0,wd p,())=some (b0++dG (aU p) 257 0++wQ p):=by
 unfold mU;simp only;have hbl:=zSd p;rw[aC (by simp[room];omega),Od];have hfin:∀ g,pY n g (b0,bF (aT p),((aT p).length:Int),((aT p).length:Int),wd p,bF ((aT p).filter λc=>!(dW.contains c)),())=some (b0++dG (aU p) 257 0++wQ p):=by
  intro g;unfold pY;simp only;have hfl:=zGb (aU p);rw[aS (by simp),zVn,zCn,yBy (by omega) (by omega) (zVq _)];simp only[bA];have h1:=Er (gQ (aU p) 0);have h2:=@zFz [] (gQ (aU p) 0);rw[zSp hn hb (by rw[h1];omega) (by omega),Tq (aU p) 256 0 257 (by omega) (by omega)]
 have key:∀ k i m,i+k=(aT p).length->k<m->fix (pY n) m (b0,bF (aT p),((aT p).length:Int),(i:Int),wd p,bF (((aT p).take i).filter λc=>!(dW.contains c)),())=some (b0++dG (aU p) 257 0++wQ p):=by
  intro k;induction k with
  |zero =>
   intro i m hi hm;rw[dD hm,List.take_of_length_le (by omega),show i=(aT p).length by omega];exact hfin _
  |succ k ih =>
   intro i m hi hm;have hil:i<(aT p).length:=by omega
   have ih:=ih (i+1) (m-1) (by omega) (by omega);have htk:(aT p).take (i+1)=(aT p).take i++[(aT p)[i]]:=by rw[List.take_add_one,List.getElem?_eq_getElem hil];rfl
   rw[htk,List.filter_append]at ih;rw[dD (by omega),pY];simp only;rw[bD (by simp;omega),aC (qR (by rw[Od];exact hil)),zZc hil,apart_eq,bZ (by omega) (by omega),show(i:Int)+1=((i+1:Nat):Int)from rfl];have hfl:(((aT p).take i).filter λc=>!(dW.contains c)).length<=256:=by
    have:=List.length_filter_le (λc=>!(dW.contains c)) ((aT p).take i);rw[List.length_take]at this;omega
   cases hc:dW.contains (aT p)[i]
   ·simp only[Bool.not_false,cond_true];rw[List.filter_cons_of_pos (by show(!(dW.contains _))=true;rw[hc];rfl),List.filter_nil]at ih;rw[aC (by rw[Od,Nat.ble_eq];unfold room;simp only[List.length_cons,List.length_nil];omega)];have e:∀ (l:List UInt8) (c:UInt8),bF (l++[c])=bF l++[(c.toNat:Int)]:=λl c=>by simp[bF]
    rw[e]at ih;exact ih
   ·simp only[Bool.not_true,cond_false];rw[List.filter_cons_of_neg (by show ¬ (!(dW.contains _))=true;rw[hc];simp),List.filter_nil,List.append_nil]at ih;exact ih
 have:=key (aT p).length 0 n (by omega) (by omega);simpa [bF]using this
theorem zNl{p:Nat->Bool}(hn:400<=n):Ag n (wd p)=some (iX p):=by
 unfold Ag;simp only;rw[Tp,bA];have h93:=zCm (n:=n) p (c:=93) (by omega);have hj:(ob (rZ n (wd p,93)) λy4=>br y4 (chk (decide ([91].length+([93]:List UInt8).length<=aH)) (jn (mU n) (aT p,[91]++[93],wd p,()))) (jn (mU n) (aT p,[91],wd p,())))=some (wR p):=by
  rw[show(93:Int)=((93:Nat):Int)from rfl,h93,bA];unfold wR Iw;cases p 93
  ·simp only[bR,Au,cond_false,List.append_nil];exact zCo hn (by simp)
  ·simp only[dK,Au,cond_true];rw[aC (by decide)];exact zCo hn (by simp)
 rw[hj];unfold iX;match aT p with
 |[]=>rfl
 |[c]=>
  rw[aS (by rfl),bD (by rfl),aC (by rfl),show bE 0 [c] 0=c from rfl,yBz];rfl
 |a::b::l =>
  rw[aS (by simp;omega),aS (by simp;omega)];rw[show(((a::b::l).length:Int)==256)=((a::b::l).length==256)by rw[Bool.eq_iff_iff,beq_iff_eq,beq_iff_eq];omega];simp only;cases((a::b::l).length==256)
  ·cases(a::b::l==[45,94])<;>rfl
  ·rfl
end
end Go.Dec
namespace Go.Dec
def Iy (p:Nat->Bool):List UInt8:=(bif p 10 then [92,110] else [])++((bif p 91 then [91] else [])++((bif p 92 then [92] else [])++(bif aT p==[45,94] then [45,94,93] else ((bif p 94 then [94] else [])++((bif p 45 then [45] else [])++[93])))))
theorem rM{p:Nat->Bool}{i:Nat}(hi:i<256):p i=true<->UInt8.ofNat i∈aT p:=by
 unfold aT;constructor
 ·intro h;exact List.mem_map.2 ⟨i,List.mem_filter.2 ⟨by simpa using hi,h⟩,rfl⟩
 ·intro h;obtain⟨j,hj,e⟩:=List.mem_map.1 h;obtain⟨h1,h2⟩:=List.mem_filter.1 hj;have hj2:j<256:=by simpa using h1
  have e2:=congrArg UInt8.toNat e;simp only[UInt8.toNat_ofNat']at e2;have:j=i:=by omega
  rw[<- this];exact h2
theorem Tt{p:Nat->Bool}{c:Nat}(hc:c<256):(bx p).getD ((c:Int).toNat) (Ty.dflt .bool)=p c:=by
 rw[Int.toNat_natCast];exact Lh false hc
section
variable {n:Nat}{p:Nat->Bool}
theorem zCp{out:List UInt8}(hn:300<=n)(ho:out.length<2000):qX n (out,bx p,())=some (out++(bif aT p==[45,94]then [45,94,93]else((bif p 94 then [94]else [])++((bif p 45 then [45]else [])++[93])))):=by
 unfold qX;simp only;have h94:=@Tt p 94 (by omega);have h45:=@Tt p 45 (by omega);rw[show((94:Nat):Int)=94 from rfl]at h94;rw[show((45:Nat):Int)=45 from rfl]at h45;rw[Av hn,bA,h94,h45];cases aT p==[45,94]
 ·rw[bR,aC (by decide),aC (by decide)];cases p 94<;>cases p 45
  ·rw[bR,aC (by decide),aC (by decide),bR,aC (by simp[aH];omega)];simp
  ·rw[bR,aC (by decide),aC (by decide),dK,aC (by simp[aH];omega),aC (by simp[aH];omega)];simp
  ·rw[dK,aC (by simp[aH];omega),aC (by decide),aC (by decide),bR,aC (by simp[aH];omega)];simp
  ·rw[dK,aC (by simp[aH];omega),aC (by decide),aC (by decide),dK,aC (by simp[aH];omega),aC (by simp[aH];omega)];simp
 ·rw[dK,aC (by simp[aH];omega)];rfl
theorem zMf{out:List UInt8}{g:List UInt8 × Int × List Bool × Unit->Option (List UInt8)}{i:Nat}(hn:300<=n)(ho:out.length<1000)(hi:256<=i):kJ n g (out,(i:Int),bx p,())=some (out++Iy p):=by
 unfold kJ;simp only;have h10:=@Tt p 10 (by omega);have h91:=@Tt p 91 (by omega);have h92:=@Tt p 92 (by omega);rw[show((10:Nat):Int)=10 from rfl]at h10;rw[show((91:Nat):Int)=91 from rfl]at h91;rw[show((92:Nat):Int)=92 from rfl]at h92;have j4:∀ out:List UInt8,out.length<1010->qY n (out,bx p,())=some (out++((bif p 92 then [92]else [])++(bif aT p==[45,94]then [45,94,93]else((bif p 94 then [94]else [])++((bif p 45 then [45]else [])++[93]))))):=by
  intro out ho;unfold qY;simp only[Au];rw[aC (by decide),aC (by decide),h92];cases p 92
  ·rw[bR,zCp hn (by omega)];simp
  ·rw[dK,aC (by simp[aH];omega),zCp hn (by simp;omega)];simp
 have j3:∀ out:List UInt8,out.length<1005->qZ n (out,bx p,())=some (out++((bif p 91 then [91]else [])++((bif p 92 then [92]else [])++(bif aT p==[45,94]then [45,94,93]else((bif p 94 then [94]else [])++((bif p 45 then [45]else [])++[93])))))):=by
  intro out ho;unfold qZ;simp only[Au];rw[aC (by decide),aC (by decide),h91];cases p 91
  ·rw[bR,j4 _ (by omega)];simp
  ·rw[dK,aC (by simp[aH];omega),j4 _ (by simp;omega)];simp
 rw[aS (by simp;omega),aC (by decide),aC (by decide),h10,Au,Au];unfold Iy;cases p 10
 ·rw[bR,j3 _ (by omega)];simp
 ·rw[dK,aC (by simp[aH];omega),j3 _ (by simp;omega)];simp
theorem zMg{i:Nat}(hn:300<=n)(hi:i<256):qW n ([93,91,92,94,45,10],IntKind.wrap .u8 (i:Int))=some (dW.contains (UInt8.ofNat i)):=by
 rw[IntWalk.u8_in _ (by omega)];have h:=Ww (n:=n) dW (by simp[dW];omega) (by simp[dW]) (UInt8.ofNat i);rw[UInt8.toNat_ofNat']at h;rw[show i % 2 ^ 8=i by omega]at h;exact h
theorem zZf{out:List UInt8}{g:List UInt8 × Int × List Bool × Unit->Option (List UInt8)}{i:Nat}{t u:Int}{v:Bool}(hn:300<=n):∀ (f k m:Nat),k<256->256-k<=f->f<m ->
 fix (wX n g) m (out,(i:Int),(k:Int),t,u,v,bx p,())=nH n g (out,(i:Int),((nU (aU p) f k:Nat):Int),t,u,v,bx p,()):=by
 intro f;induction f with
 |zero=>intro k m h1 h2;omega
 |succ f ih =>
  intro k m h1 h2 hm;rw[dD (by omega),wX];simp only;rw[bZ (by omega) (by omega),show(k:Int)+1=((k+1:Nat):Int)from rfl];unfold nU;by_cases hk:k+1<256
  ·rw[bD (by simp;omega),aC (qR (i:=k+1) (n:=256) hk),aC (by simp;omega),Tt hk,decide_eq_true hk,Bool.true_and,Au];have hpl:aU p (k+1)=(p (k+1)&&!(dW.contains (UInt8.ofNat (k+1)))):=rfl;rw[hpl];cases hp:p (k+1)
   ·rw[bR,Bool.false_and];rfl
   ·rw[dK,zMg hn hk,bA,Bool.true_and];cases dW.contains (UInt8.ofNat (k+1))
    ·rw[Bool.not_false,dK];exact ih (k+1) (m-1) hk (by omega) (by omega)
    ·rw[Bool.not_true,bR];rfl
  ·rw[aS (by simp;omega),decide_eq_false hk,Au];rfl
theorem zVr(hn:300<=n):∀ (d i f m:Nat) (out:List UInt8),256-i<=d->256-i<f->d<m->i<=256->out.length<=3*i+3 ->
 fix (kJ n) m (out,(i:Int),bx p,())=some (out++dG (aU p) f i++Iy p):=by
 intro d;induction d with
 |zero =>
  intro i f m out h1 h2 hm hi ho;obtain⟨f,rfl⟩:∃ k,f=k+1:=⟨f-1,by omega⟩;rw[dD hm,zMf hn (by omega) (by omega),dG,if_neg (by omega)];simp
 |succ d ih =>
  intro i f m out h1 h2 hm hi ho;obtain⟨f,rfl⟩:∃ k,f=k+1:=⟨f-1,by omega⟩;by_cases hlt:i<256
  case neg=>rw[dD (by omega),zMf hn (by omega) (by omega),dG,if_neg hlt];simp
  rw[dD (by omega),kJ];simp only;rw[bD (by simp;omega),aC (qR (i:=i) (n:=256) hlt),aC (by simp;omega),Tt hlt,bZ (x:=(i:Int)+1) (by omega) (by omega),show(i:Int)+1=((i+1:Nat):Int)from rfl];unfold dG;rw[if_pos hlt];have hpl:aU p i=(p i&&!(dW.contains (UInt8.ofNat i))):=rfl;have next:aU p i=false->fix (kJ n) (m-1) (out,((i+1:Nat):Int),bx p,())=some (out++(bif aU p i then(bif decide (i+2<=nU (aU p) 256 i)then [UInt8.ofNat i,45,UInt8.ofNat (nU (aU p) 256 i)]++dG (aU p) f (nU (aU p) 256 i+1)else [UInt8.ofNat i]++dG (aU p) f (i+1))else dG (aU p) f (i+1))++Iy p):=by
   intro h;rw[h];exact ih (i+1) f (m-1) out (by omega) (by omega) (by omega) (by omega) (by omega)
  cases hp:p i
  ·rw[Bool.not_false,dK];exact next (by rw[hpl,hp];rfl)
  ·rw[Bool.not_true,bR,zMg hn hlt,bA];cases ha:dW.contains (UInt8.ofNat i)
   ·rw[bR,Au,show aU p i=true by rw[hpl,hp,ha];rfl];simp only[cond_true];unfold Gl;simp only;rw[zZf hn 256 i n hlt (by omega) (by omega)];obtain⟨a1,a2,a3,a4⟩:=Iu (aU p) 256 i hlt (by omega);generalize nU (aU p) 256 i=k at *;unfold nH;simp only;rw[bZ (x:=(k:Int)-(i:Int)) (by omega) (by omega),IntWalk.u8_in (i:Int) (by omega),IntWalk.u8_in (k:Int) (by omega)];have hb1:dZ [(i:Int)]=[UInt8.ofNat i]:=rfl;have hb3:dZ [(i:Int),45,(k:Int)]=[UInt8.ofNat i,45,UInt8.ofNat k]:=rfl;rw[hb1,hb3];by_cases h3:i+2<=k
    ·rw[bD (by simp;omega),decide_eq_true h3,aC (by simp[aH];omega),bZ (by omega) (by omega),show(k:Int)+1=((k+1:Nat):Int)from rfl];simp only[cond_true];rw[ih (k+1) f (m-1) _ (by omega) (by omega) (by omega) (by omega) (by simp;omega)];simp
    ·rw[aS (by simp;omega),decide_eq_false h3,aC (by simp[aH];omega),bZ (by omega) (by omega),show(i:Int)+1=((i+1:Nat):Int)from rfl];simp only[cond_false];rw[ih (i+1) f (m-1) _ (by omega) (by omega) (by omega) (by omega) (by simp;omega)];simp
   ·rw[dK];exact next (by rw[hpl,hp,ha];rfl)
theorem zGx(hn:300<=n):yU n (bx p)=some (Iw p++dG (aU p) 257 0++Iy p):=by
 unfold yU;simp only;have h93:=@Tt p 93 (by omega);rw[show((93:Nat):Int)=93 from rfl]at h93;rw[aC (by decide),aC (by decide),h93,Au,Au];unfold Iw wY;simp only;have:=λout h=>zVr (n:=n) (p:=p) hn 256 0 257 n out (by omega) (by omega) (by omega) (by omega) h
 rw[show((0:Nat):Int)=0 from rfl]at this;cases p 93
 ·rw[bR,this _ (by simp)];simp
 ·rw[dK,aC (by decide),this _ (by simp)];rfl
theorem zVs(h2:2<=(aT p).length)(Oj:(aT p).length≠256):iX p=Iw p++dG (aU p) 257 0++Iy p:=by
 have hsh:iX p=bif aT p==[45,94]then [91,45,94,93]else wR p:=by
  unfold iX;match hb:aT p,h2,Oj with
  |[],h2,_=>simp at h2
  |[c],h2,_=>simp at h2
  |a::b::l,_,Oj =>
   simp only;have:((a::b::l).length==256)=false:=by rw[Bool.eq_false_iff,ne_eq,beq_iff_eq];exact Oj
   rw[this];rfl
 rw[hsh];cases hb:aT p==[45,94]
 ·unfold wR Iy wQ;rw[hb];rfl
 ·have hb2:aT p=[45,94]:=by simpa using hb
  have hnot:∀ i,i<256->i≠45->i≠94->p i=false:=by
   intro i hi h1 h2;cases hp:p i
   ·rfl
   ·have:=(rM (p:=p) hi).1 hp;rw[hb2]at this;simp only[List.mem_cons,List.not_mem_nil,or_false]at this;rcases this with h|h
    ·have:=congrArg UInt8.toNat h;simp only[UInt8.toNat_ofNat']at this;exact absurd (show i=45 by have h45:(45:UInt8).toNat=45:=rfl;omega) h1
    ·have:=congrArg UInt8.toNat h;simp only[UInt8.toNat_ofNat']at this;exact absurd (show i=94 by have h45:(94:UInt8).toNat=94:=rfl;omega) h2
  have hsc:dG (aU p) 257 0=[]:=by
   have hf:gQ (aU p) 0=[]:=by
    rw[<- zCn,hb2];decide
   have:=Tq (aU p) 256 0 257 (by omega) (by omega);rw[hf]at this;exact this.symm
  unfold Iw Iy;rw[hsc,hb,hnot 93 (by omega) (by omega) (by omega),hnot 10 (by omega) (by omega) (by omega),hnot 91 (by omega) (by omega) (by omega),hnot 92 (by omega) (by omega) (by omega)];rfl
end
end Go.Dec
namespace Go.Dec
def yEx (lo hi:Int):List UInt8 :=bif hi == -1 then (bif lo==0 then [42] else [92,123]++Ii lo++[44,92,125]) else bif hi==lo then [92,123]++Ii lo++[92,125] else [92,123]++Ii lo++[44]++Ii hi++[92,125]
def Tv:Pt->List UInt8 | .empty=>[] | .bytes p=>iX p | .bol=>[94] | .eol=>[36] | .cat a b=>Tv a++Tv b | .alt _ _=>[124] | .times a lo hi=>Tv a++yEx lo hi | .group a _=>[92,40]++Tv a++[92,41] | .ref m=>[92]++Ii (m:Int)
theorem zZg(p:Nat->Bool):(dG (aU p) 257 0).length<=256:=by
 rw[<- Tq (aU p) 256 0 257 (by omega) (by omega)];have h1:=Oh (iO (gQ (aU p) 0));rw[Er]at h1;have:=zGb (aU p);omega
theorem zVt(p:Nat->Bool):(iX p).length<=270:=by
 unfold iX;split
 ·simp
 ·unfold Oe;rename_i c _;cases c==10<;>cases Ba.contains c<;>simp
 ·have hl:(wR p).length<=270:=by
   have:=zZg p;simp only[wR,Iw,wQ,List.length_append];cases p 93<;>cases p 10<;>cases p 91<;>cases p 92<;>cases p 94<;>cases p 45<;>simp<;>omega
  cases(aT p).length==256
  ·cases aT p==[45,94]
   ·exact hl
   ·simp
  ·simp
section
variable {n:Nat}{l:List Nd}
end
end Go.Dec
namespace Go.Dec
section
variable {n:Nat}{l:List Nd}
end
end Go.Dec
