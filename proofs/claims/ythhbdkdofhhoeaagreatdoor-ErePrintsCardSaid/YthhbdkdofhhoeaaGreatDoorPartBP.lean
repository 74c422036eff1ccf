/- Part of a proof over this seat: a library of my own, and what it says of this seat. No statement is proved here. -/
import Derived.Test.YthhbdkdofhhoeaaGreatDoorPartBO
import Derived.Test.YthhbdkdofhhoeaaGreatDoorPartBJ
namespace Go.Dec
def lJ:List UInt8:=[93,91,92,94,45,10]
def Io:List UInt8:=[46,91,92,42,94,36]
def zMp (c:UInt8):List UInt8:=bif c==10 then [92,110] else bif Io.contains c then [92,c] else [c]
def kL:List UInt8->List (List UInt8)
 |[]=>[]
 |c::r=>match kL r with
  |(d::x)::rest=>bif d==c+1 then(c::d::x)::rest else [c]::(d::x)::rest
  |rest=>[c]::rest
def uY (r:List UInt8):List UInt8:=bif decide (r.length > 2) then r.take 1++[45]++r.drop (r.length - 1) else r
theorem Tm(c:UInt8)(r:List UInt8):∃ x rest,kL (c::r)=(c::x)::rest:=by
 unfold kL;split
 ·rename_i d x rest h;cases d==c+1
  ·exact⟨_,_,rfl⟩
  ·exact⟨_,_,rfl⟩
 ·exact⟨_,_,rfl⟩
def zTu (out:List (List UInt8)) (b:Bool) (c:UInt8):List (List UInt8) :=bif b then out.set (out.length - 1) (out.getD (out.length - 1) []++[c]) else out++[[c]]
theorem zMq:∀ (s:List UInt8) (l c:UInt8),kL (s++[l,c])=zTu (kL (s++[l])) (c==l+1) c
 |[],l,c=>by
  simp only[List.nil_append,kL,zTu];cases c==l+1<;>rfl
 |a::s,l,c=>by
  have ih:=zMq s l c;simp only[List.cons_append]at ih ⊢;obtain⟨h,t,hs⟩:∃ h t,s++[l]=h::t:=by cases s with
   |nil=>exact⟨_,_,rfl⟩
   |cons h t=>exact⟨_,_,rfl⟩
  have hs2:s++[l,c]=h::(t++[c]):=by rw[show [l,c]=[l]++[c]from rfl,<- List.append_assoc,hs];rfl
  obtain⟨x,rest,e1⟩:=Tm h t;rw[hs2,hs]at ih ⊢;rw[e1]at ih;have hcc:∀ r,kL (a::r)=(match kL r with
   |(d::x)::rest=>bif d==a+1 then(a::d::x)::rest else [a]::(d::x)::rest
   |rest=>[a]::rest):=λ_=>rfl
  rw[hcc,hcc,e1,ih];unfold zTu;cases hb:c==l+1
  ·simp only[cond_false,List.cons_append];cases h==a+1<;>simp
  ·simp only[cond_true];cases rest with
   |nil =>
    simp only[List.length_cons,List.length_nil,Nat.zero_add,Nat.sub_self,List.set_cons_zero,List.getD_cons_zero,List.cons_append];cases h==a+1<;>simp
   |cons r1 rest =>
    simp only[List.length_cons,Nat.add_sub_cancel,List.set_cons_succ,List.getD_cons_succ];cases h==a+1<;>simp
section
variable {n:Nat}
theorem zRl{s:List UInt8}:∀ {s:List UInt8},(kL s).length<=s.length:=by
 intro s;induction s with
 |nil=>exact bA _
 |cons c r ih =>
  unfold kL;split
  ·rename_i d x rest h;rw[h]at ih;simp only[List.length_cons]at ih ⊢;cases d==c+1<;>simp<;>omega
  ·simp only[List.length_cons];omega
theorem Nh:∀ s:List UInt8,(kL s).flatten=s
 |[]=>rfl
 |c::r=>by
  have ih:=Nh r;unfold kL;split
  ·rename_i d x rest h;rw[h]at ih;simp only[List.flatten_cons,List.cons_append]at ih;cases d==c+1
   ·simp[<- ih]
   ·simp[<- ih]
  ·simp only[List.flatten_cons,List.singleton_append];rw[ih]
theorem yKa{s r:List UInt8}(h:r∈kL s):r.length<=s.length:=by
 have h2:=Nh s;have:∀ (l:List (List UInt8)),r∈l->r.length<=l.flatten.length:=by
  intro l;induction l with
  |nil=>intro h;simp at h
  |cons a l ih =>
   intro h;simp only[List.flatten_cons,List.length_append];rcases List.mem_cons.1 h with rfl|h
   ·omega
   ·have:=ih h;omega
 have:=this _ h;rw[h2]at this;exact this
theorem yRt{s:List UInt8}(hs:s.length<n)(hs2:s.length<100000)(hasc:∀ i,i+1<s.length->(s.getD i 0).toNat+1<256):Oq n s=some (kL s):=by
 unfold Oq;simp only;have hlen:∀ r:List UInt8,(kL r).length<=r.length:=λr=>zRl (s:=[])
 have key:∀ k i m,i+k=s.length->k<m->fix (zD n) m (s,(s.length:Int),(i:Int),kL (s.take i),())=some (kL s):=by
  intro k;induction k with
  |zero =>
   intro i m hi hm;rw[bI hm,zD];simp only;rw[aC (by simp;omega),List.take_of_length_le (by omega)]
  |succ k ih =>
   intro i m hi hm;have hil:i<s.length:=by omega
   have hit:s.take (i+1)=s.take i++[s[i]]:=by rw[List.take_add_one,List.getElem?_eq_getElem hil];rfl
   have hi1:IntKind.wrap .i64 ((i:Int)+1)=((i+1:Nat):Int):=by rw[aW (by omega) (by omega)];rfl
   have hcut:(s.take (i+1)).drop i=[s[i]]:=by
    rw[hit,List.drop_append_of_le_length (by rw[List.length_take];omega),List.drop_of_length_le (by rw[List.length_take];omega)];rfl
   have hrl:=hlen (s.take i);have htl:(s.take i).length=i:=by rw[List.length_take];omega
   rw[htl]at hrl;have ih:=ih (i+1) (m-1) (by omega) (by omega);rw[hit]at ih;rw[bI (by omega),zD];simp only;rw[aI (by simp;omega),hi1];cases i with
   |zero =>
    simp only[List.take_zero,kL,List.nil_append]at ih ⊢;rw[aC (by rfl),aB (by simp;omega),Int.toNat_natCast,Int.toNat_natCast,hcut,aB (by simp[room])];exact ih
   |succ j =>
    have hjl:j<s.length:=by omega
    have hjt:s.take (j+1)=s.take j++[s[j]]:=by rw[List.take_add_one,List.getElem?_eq_getElem hjl];rfl
    rw[hjt]at ih hrl ⊢;rw[List.append_assoc,List.singleton_append,zMq]at ih;obtain⟨x,rest,e1⟩:∃ x rest,kL (s.take j++[s[j]])=x::rest:=by
     obtain⟨a,b,hh⟩:=List.exists_cons_of_ne_nil (show s.take j++[s[j]]≠[]from λh=>by have:=congrArg List.length h;rw[List.length_append,List.length_cons]at this;simp only[List.length_nil]at this;omega);rw[hh];obtain⟨x,rest,h⟩:=Tm a b;exact⟨_,_,h⟩
    generalize hR:kL (s.take j++[s[j]])=R at *;have hRp:1<=R.length:=by rw[e1];simp
    have hv7:IntKind.wrap .i64 ((R.length:Int)-1)=((R.length-1:Nat):Int):=by rw[aW (by omega) (by omega)];omega
    have hj1:IntKind.wrap .i64 (((j+1:Nat):Int)-1)=(j:Int):=by rw[aW (by omega) (by omega)];omega
    have hb:=hasc j (by omega);rw[List.getD_eq_getElem?_getD,List.getElem?_eq_getElem hjl]at hb;simp only[Option.getD_some]at hb;have hw:IntKind.wrap .u8 ((s[j].toNat:Int)+1)=((s[j].toNat+1:Nat):Int):=by rw[IntWalk.u8_in _ (by omega)];rfl
    rw[hv7,aI (by simp),aB (fQ hil),gX hil,hj1,aB (fQ hjl),gX hjl,hw];have he:((s[j+1].toNat:Int)==((s[j].toNat+1:Nat):Int))=(s[j+1]==s[j]+1):=by
     rw[Bool.eq_iff_iff,beq_iff_eq,beq_iff_eq,<- UInt8.toNat_inj,UInt8.toNat_add];have:(1:UInt8).toNat=1:=rfl;rw[this,Nat.mod_eq_of_lt hb];omega
    rw[he];unfold zTu at ih;cases hc:s[j+1]==s[j]+1
    ·rw[hc]at ih;simp only[cond_false]at ih;rw[aZ,aB (by simp;omega),Int.toNat_natCast,Int.toNat_natCast,hcut,aB (by simp[room];omega)];exact ih
    ·rw[hc]at ih;simp only[cond_true]at ih;rw[bQ,aB (by rw[fQ (by omega)];simp),Int.toNat_natCast,Nat.zero_add,aB (by simp;omega),show Ty.dflt .str=([]:List UInt8)from rfl,aB (by simp;omega),Int.toNat_natCast,Int.toNat_natCast,hcut];have hRl:(R.getD (R.length-1) []).length<=s.length:=by
      rw[List.getD_eq_getElem?_getD,List.getElem?_eq_getElem (by omega)];simp only[Option.getD_some];have:=yKa (s:=s.take j++[s[j]]) (r:=R[R.length-1]) (by rw[hR];exact List.getElem_mem _);rw[<- hjt,htl]at this;omega
     rw[aB (by exact decide_eq_true (by simp only[aG,List.length_cons,List.length_nil];omega)),aB (by rw[fQ (by omega)];simp),aB (by simp;omega)];exact ih
 exact key s.length 0 n (by omega) (by omega)
end
def wH (q:Nat->Bool):Nat->Nat->Nat | 0,k=>k | f+1,k=>bif decide (k+1 < 256)&&q (k+1) then wH q f (k+1) else k
def jY(q:Nat->Bool):Nat->Nat->List UInt8
 |0,_=>[]
 |f+1,i=>if i<256 then(bif q i then(bif decide (i+2<=wH q 256 i)then [UInt8.ofNat i,45,UInt8.ofNat (wH q 256 i)]++jY q f (wH q 256 i+1)else [UInt8.ofNat i]++jY q f (i+1))else jY q f (i+1))else []
theorem zDd(q:Nat->Bool):∀ (f k:Nat),k<256->256-k<=f->k<=wH q f k/\wH q f k<256/\(∀ j,k<j->j<=wH q f k->q j=true)/\(wH q f k+1=256\/q (wH q f k+1)=false)
 |0,k,h1,h2=>by omega
 |f+1,k,h1,h2=>by
  unfold wH;cases hc:decide (k+1<256)&&q (k+1)
  ·simp only[cond_false];refine⟨bA _,h1,λj a b=>by omega,?_⟩;simp only[Bool.and_eq_false_iff,decide_eq_false_iff_not]at hc;rcases hc with hc|hc
   ·left;omega
   ·right;exact hc
  ·simp only[cond_true];simp only[aH,decide_eq_true_eq]at hc;obtain⟨a1,a2,a3,a4⟩:=zDd q f (k+1) hc.1 (by omega);refine⟨by omega,a2,λj b c=>?_,a4⟩;by_cases hj:j=k+1
   ·rw[hj];exact hc.2
   ·exact a3 j (by omega) c
def pW(i m:Nat):List UInt8:=(List.range' i m).map UInt8.ofNat
def jK(q:Nat->Bool)(i:Nat):List UInt8:=((List.range' i (256-i)).filter q).map UInt8.ofNat
theorem ofNat_succ{i:Nat}:UInt8.ofNat i+1=UInt8.ofNat (i+1):=by
 rw[<- UInt8.toNat_inj,UInt8.toNat_add];simp
theorem zYz(rest:List UInt8):∀ (m i:Nat),(∀ d r,rest=d::r->(d==UInt8.ofNat (i+m+1))=false)->kL (pW i (m+1)++rest)=pW i (m+1)::kL rest
 |0,i,h=>by
  have e:pW i 1=[UInt8.ofNat i]:=rfl;rw[Nat.zero_add,e,List.singleton_append];cases rest with
  |nil=>rfl
  |cons d r =>
   obtain⟨x,rest,e1⟩:=Tm d r;have hd:=h d r rfl;rw[Nat.add_zero,<- ofNat_succ]at hd;rw[kL,e1];simp only[hd,cond_false]
 |m+1,i,h=>by
  have e:∀ m,pW i (m+1)=UInt8.ofNat i::pW (i+1) m:=λm=>by simp[pW,List.range'_succ]
  have ih:=zYz rest m (i+1) (λd r hr=>by have:=h d r hr;rw[show i+1+m+1=i+(m+1)+1 by omega];exact this);have e2:pW (i+1) (m+1)=UInt8.ofNat (i+1)::pW (i+1+1) m:=by simp[pW,List.range'_succ]
  rw[e (m+1),List.cons_append,kL,ih,e2];simp only[ofNat_succ,beq_self_eq_true,cond_true]
theorem yOh{q:Nat->Bool}{i:Nat}(hi:i<256)(h:q i=false):jK q i=jK q (i+1):=by
 unfold jK;rw[show 256-i=(256-(i+1))+1 by omega,List.range'_succ,List.filter_cons_of_neg (by simp[h])]
theorem zRm{q:Nat->Bool}:∀ (m i:Nat),i+m<=256->(∀ j,i<=j->j<i+m->q j=true)->jK q i=pW i m++jK q (i+m)
 |0,i,_,_=>by simp[pW]
 |m+1,i,h1,h2=>by
  have ih:=zRm m (i+1) (by omega) (λj a b=>h2 j (by omega) (by omega));have e:jK q i=UInt8.ofNat i::jK q (i+1):=by
   unfold jK;rw[show 256-i=(256-(i+1))+1 by omega,List.range'_succ,List.filter_cons_of_pos (h2 i (by omega) (by omega)),List.map_cons]
  rw[e,ih,show i+(m+1)=i+1+m by omega];simp[pW,List.range'_succ]
theorem yGr{q:Nat->Bool}{i:Nat}{d:UInt8}{r:List UInt8}(h:jK q i=d::r):∃ j,i<=j/\j<256/\d=UInt8.ofNat j/\q j=true:=by
 have hm:d∈jK q i:=by rw[h];simp
 unfold jK at hm;obtain⟨j,hj,rfl⟩:=List.mem_map.1 hm;obtain⟨h1,h2⟩:=List.mem_filter.1 hj;rw[List.mem_range'_1]at h1;exact⟨j,h1.1,by omega,rfl,h2⟩
theorem Xw(i m:Nat):(pW i m).length=m:=by simp[pW]
theorem yOi{i j:Nat}(hi:i<256)(hj:j<256)(h:i≠j):(UInt8.ofNat i==UInt8.ofNat j)=false:=by
 rw[Bool.eq_false_iff,ne_eq,beq_iff_eq,<- UInt8.toNat_inj,UInt8.toNat_ofNat',UInt8.toNat_ofNat'];omega
theorem zDe(q:Nat->Bool):∀ (n i f:Nat),256-i<=n->256-i<f->((kL (jK q i)).map uY).flatten=jY q f i:=by
 intro n;induction n with
 |zero =>
  intro i f h hf;obtain⟨f,rfl⟩:∃ k,f=k+1:=⟨f-1,by omega⟩;have e:jK q i=[]:=by unfold jK;rw[show 256-i=0 by omega];rfl
  rw[e];unfold jY;rw[if_neg (by omega)];rfl
 |succ n ih =>
  intro i f h hf;obtain⟨f,rfl⟩:∃ k,f=k+1:=⟨f-1,by omega⟩;by_cases hi:i<256
  case neg =>
   have e:jK q i=[]:=by unfold jK;rw[show 256-i=0 by omega];rfl
   rw[e];unfold jY;rw[if_neg hi];rfl
  unfold jY;rw[if_pos hi];cases hq:q i
  ·simp only[cond_false];rw[yOh hi hq];exact ih (i+1) f (by omega) (by omega)
  ·simp only[cond_true];obtain⟨a1,a2,a3,a4⟩:=zDd q 256 i hi (by omega);generalize hk:wH q 256 i=k at *;have hrest:∀ (m:Nat),i+m=k->∀ d r,jK q (k+1)=d::r->(d==UInt8.ofNat (i+m+1))=false:=by
    intro m hm d r hr;obtain⟨j,b1,b2,rfl,b4⟩:=yGr hr;rw[hm];refine yOi b2 (by omega) ?_;intro hj;subst hj;rcases a4 with a4|a4
    ·omega
    ·rw[a4]at b4;simp at b4
   have hF:=zRm (q:=q) (k-i+1) i (by omega) (λj c1 c2=>by
    by_cases hj:j=i
    ·rw[hj];exact hq
    ·exact a3 j (by omega) (by omega))
   rw[show i+(k-i+1)=k+1 by omega]at hF;have hR:=zYz (jK q (k+1)) (k-i) i (hrest (k-i) (by omega));rw[hF,hR,List.map_cons,List.flatten_cons,ih (k+1) f (by omega) (by omega)];by_cases h2:i+2<=k
   ·rw[decide_eq_true h2];simp only[cond_true];have hs:uY (pW i (k-i+1))=[UInt8.ofNat i,45,UInt8.ofNat k]:=by
     unfold uY;rw[Xw,decide_eq_true (show k-i+1>2 by omega)];simp only[cond_true,Nat.add_sub_cancel];have h1:(pW i (k-i+1)).take 1=[UInt8.ofNat i]:=by simp[pW,List.range'_succ]
     have h3:(pW i (k-i+1)).drop (k-i)=[UInt8.ofNat k]:=by
      have:pW i (k-i+1)=pW i (k-i)++[UInt8.ofNat k]:=by
       unfold pW;rw[List.range'_concat,List.map_append,Nat.one_mul,show i+(k-i)=k by omega];rfl
      rw[this,List.drop_append_of_le_length (by rw[Xw];omega),List.drop_of_length_le (by rw[Xw];omega)];rfl
     rw[h1,h3];rfl
    rw[hs]
   ·rw[decide_eq_false h2];simp only[cond_false];have hs:uY (pW i (k-i+1))=pW i (k-i+1):=by
     unfold uY;rw[Xw,decide_eq_false (show ¬ k-i+1>2 by omega)];rfl
    rw[hs];by_cases h0:k=i
    ·subst h0;rw[Nat.sub_self];rfl
    ·have h1:k=i+1:=by omega
     subst h1;rw[show i+1-i+1=2 by omega,show pW i 2=[UInt8.ofNat i,UInt8.ofNat (i+1)]from rfl];obtain⟨f,rfl⟩:∃ k,f=k+1:=⟨f-1,by omega⟩;have hq1:=a3 (i+1) (by omega) (by omega);have hend:wH q 256 (i+1)=i+1:=by
      unfold wH;rcases a4 with a4|a4
      ·rw[show decide (i+1+1<256)=false from decide_eq_false (by omega)];rfl
      ·rw[a4,Bool.and_false];rfl
     have hsc:jY q (f+1) (i+1)=[UInt8.ofNat (i+1)]++jY q f (i+1+1):=by
      rw[jY,if_pos (by omega),hq1,hend];simp only[cond_true];rw[decide_eq_false (by omega)];rfl
     rw[hsc];have hfu:jY q (f+1) (i+1+1)=jY q f (i+1+1):=by
      rw[<- ih (i+1+1) (f+1) (by omega) (by omega),<- ih (i+1+1) f (by omega) (by omega)]
     rw[hfu];rfl
end Go.Dec
namespace Go.Dec
theorem yKb:((List.range 256).all λi=>decide (fE .u8 .and (i:Int) 63=((i % 64:Nat):Int)))=true:=by decide +kernel
theorem yRu{x k:Nat}(hk:k<64):pO .u64 (x:Int) (k:Int)=((x / 2 ^ k:Nat):Int):=by
 unfold pO;rw[Int.toNat_natCast,show IntKind.u64.bits=64 from rfl,Nat.min_eq_left (show k<=64 by omega)];rw[show((2:Int) ^ k)=((2 ^ k:Nat):Int)by simp];rw[Int.fdiv_eq_ediv_of_nonneg _ (Int.natCast_nonneg _)];exact(Int.natCast_ediv x (2 ^ k)).symm
theorem zMr{n:Nat}(p:Nat->Bool){c:Nat}(hc:c<256):wT n (wd p,(c:Int))=some (p c):=by
 unfold wT;simp only;have h1:=yUw hc;have h2:=sZ yKb hc;simp only[decide_eq_true_eq]at h2;rw[aB (by decide),h1.1,aB (fQ (i:=c / 64) (n:=4) (by omega)),aB (by simp;omega),Int.toNat_natCast,h2,aB (by simp;omega)];have hk:c / 64=0\/c / 64=1\/c / 64=2\/c / 64=3:=by omega
 have hg:(wd p).getD (c / 64) (Ty.dflt (.int .u64))=((Jh p (c / 64):Nat):Int):=by
  rcases hk with h|h|h|h<;>rw[h]<;>rfl
 rw[hg,yRu (by omega)];have hlt:=tX p (c / 64);rw[show(1:Int)=((1:Nat):Int)from rfl,xAb (Nat.lt_of_le_of_lt (Nat.div_le_self _ _) hlt) (by omega)];have ht:=Ig p (c / 64) (c % 64);rw[decide_eq_true (show c % 64<64 by omega),Bool.true_and,show 64*(c / 64)+c % 64=c by omega]at ht;rw[<- ht,Nat.testBit_eq_decide_div_mod_eq];congr 1;rw[Nat.and_one_is_mod,Bool.eq_iff_iff,beq_iff_eq,decide_eq_true_eq];omega
def fM (p:Nat->Bool):Nat->Bool:=fun i=>p i&&!(lJ.contains (UInt8.ofNat i))
def Jm (p:Nat->Bool):List UInt8:=(bif p 10 then [92,110] else [])++((bif p 91 then [91] else [])++((bif p 92 then [92] else [])++((bif p 94 then [94] else [])++((bif p 45 then [45] else [])++[93]))))
def Xx (p:Nat->Bool):List UInt8:=[91]++(bif p 93 then [93] else [])
def Xy (p:Nat->Bool):List UInt8:=Xx p++jY (fM p) 257 0++Jm p
def Ca(p:Nat->Bool):List UInt8 :=
 match bG p with
 |[]=>[]
 |[c]=>zMp c
 |l=>bif l.length==256 then [46]else bif l==[45,94]then [91,45,94,93]else Xy p
theorem yKc(l:List UInt8):fZ (bN l)=l:=by
 simp[fZ,bN,List.map_map,Function.comp_def]
theorem yKd:((List.range 256).all λi=>decide (Go.Lib.indexByte lJ (UInt8.ofNat i)<0)==!(lJ.contains (UInt8.ofNat i)))=true:=by decide +kernel
theorem zZa:((List.range 256).all λi=>decide (Go.Lib.indexByte Io (UInt8.ofNat i)≥0)==Io.contains (UInt8.ofNat i))=true:=by decide +kernel
theorem apart_eq{n:Nat}{ρ:Type}(d:UInt8)(X Y:Option ρ):(ob (strings_IndexByte n ([93,91,92,94,45,10],(d.toNat:Int))) λy=>br (decide (y<0)) X Y)=bif !(lJ.contains d)then X else Y:=by
 have:=sZ yKd d.toNat_lt;rw[beq_iff_eq,Nf]at this;unfold strings_IndexByte;simp only[aK,Int.toNat_natCast];rw[show(d.toNat).toUInt8=d from Nf d,<- zXt,<- this];rfl
theorem yRv{n:Nat}(d:UInt8):Oo n (d.toNat:Int)=some (zMp d):=by
 have:=sZ zZa d.toNat_lt;rw[beq_iff_eq,Nf]at this;unfold Oo zMp;simp only;have hb:fZ [(d.toNat:Int)]=[d]:=by simp[fZ]
 rw[show((d.toNat:Int)==10)=(d==10)by rw[zCj];exact eqI 10];unfold strings_IndexByte;simp only[aK,Int.toNat_natCast];rw[show(d.toNat).toUInt8=d from Nf d,hb];cases d==10
 ·simp only[aZ,cond_false];rw[show([46,91,92,42,94,36]:List UInt8)=Io from rfl,this,aB (by simp[aG]),zXt];cases Io.contains d<;>rfl
 ·rfl
theorem yKe(r:List UInt8):(uY r).length<=r.length:=by
 unfold uY;by_cases h:r.length>2
 ·rw[decide_eq_true h];simp;omega
 ·rw[decide_eq_false h];exact bA _
theorem Xz:∀ l:List (List UInt8),((l.map uY).flatten).length<=l.flatten.length
 |[]=>bA _
 |a::l=>by have:=Xz l;have:=yKe a;simp only[List.map_cons,List.flatten_cons,List.length_append];omega
theorem zMs(p:Nat->Bool):(bG p).filter (λc=>!(lJ.contains c))=jK (fM p) 0:=by
 unfold bG jK fM;rw[List.filter_map,List.filter_filter,<- List.range_eq_range'];congr 1;apply List.filter_congr;intro i _;simp only[Function.comp,Bool.and_comm]
theorem yKf(q:Nat->Bool):∀ i,i+1<(jK q 0).length->((jK q 0).getD i 0).toNat+1<256:=by
 intro i hi;have hp:(List.range' 0 256).Pairwise (· < ·):=List.pairwise_lt_range';have hq:((List.range' 0 256).filter q).Pairwise (· < ·):=hp.filter q;rw[List.pairwise_iff_getElem]at hq;unfold jK at hi ⊢;rw[Nat.sub_zero]at hi ⊢;rw[List.length_map]at hi;have h:=hq i (i+1) (by omega) hi (by omega);have hm:((List.range' 0 256).filter q)[i+1]∈(List.range' 0 256).filter q:=List.getElem_mem _;have hm2:=(List.mem_filter.1 hm).1;rw[List.mem_range'_1]at hm2;rw[List.getD_eq_getElem?_getD,List.getElem?_map,List.getElem?_eq_getElem (by omega)];simp only[Option.map_some,Option.getD_some,UInt8.toNat_ofNat'];omega
theorem zRn(q:Nat->Bool):(jK q 0).length<=256:=by
 unfold jK;rw[List.length_map];have:=List.length_filter_le q (List.range' 0 256);simpa using this
section
variable {n:Nat}
theorem yGs{b:List UInt8}{p:Nat->Bool}(hn:10<=n)(hb:b.length<1000):fix (qD n) n (b,(([[10],[91],[92],[94],[45]]:List (List UInt8)).length:Int),0,wd p,[[10],[91],[92],[94],[45]],())=some (b++Jm p):=by
 obtain⟨n,rfl⟩:∃ m,n=m+6:=⟨n-6,by omega⟩;have has:∀ c:Nat,c<256->wT (n+6) (wd p,(c:Int))=some (p c):=λc hc=>zMr p hc
 have h10:=has 10 (by omega);have h91:=has 91 (by omega);have h92:=has 92 (by omega);have h94:=has 94 (by omega);have h45:=has 45 (by omega);have step:∀ (m:Nat) (b:List UInt8) (i:Nat) (c:UInt8),i<5->b.length<1010->([[10],[91],[92],[94],[45]]:List (List UInt8)).getD i []=[c]->c.toNat<256 ->
  fix (qD (n+6)) (m+1) (b,5,(i:Int),wd p,[[10],[91],[92],[94],[45]],())=fix (qD (n+6)) m (b++(bif p c.toNat then(bif c==10 then [92,110]else [c])else []),5,((i+1:Nat):Int),wd p,[[10],[91],[92],[94],[45]],()):=by
  intro m b i c hi hb hc hc2;rw[bI (by omega),qD];simp only;rw[aI (by simp;omega),aB (by rw[fQ (by exact hi)];rfl),Int.toNat_natCast,Nat.zero_add,aB (by simp;omega),show Ty.dflt .str=([]:List UInt8)from rfl,hc];rw[aB (by rfl),show aR 0 [c] 0=c from rfl,has c.toNat hc2];simp only[aK,Nat.add_sub_cancel];rw[aW (by omega) (by omega),show(i:Int)+1=((i+1:Nat):Int)from rfl];rw[show([c]==[10])=(c==10)by simp];cases hp:p c.toNat
  ·simp only[aZ,cond_false,List.append_nil];first|rfl|(rw[aB (by rfl)];done)|(rw[aB (by rfl),show aR 0 [c] 0=c from rfl,has c.toNat hc2,hp];rfl)
  ·simp only[bQ,cond_true];cases c==10
   ·simp only[aZ,cond_false];rw[aB (by rfl),aB (by simp[aG];omega)]
   ·simp only[bQ,cond_true];rw[aB (by simp[aG];omega)]
 have l1:∀ (x:Bool) (y:List UInt8),y.length<=2->(bif x then y else []).length<=2:=by intro x y h;cases x<;>simp[h]
 rw[show(([[10],[91],[92],[94],[45]]:List (List UInt8)).length:Int)=5 from rfl,show(0:Int)=((0:Nat):Int)from rfl];have hlen:∀ (b:List UInt8) (k:Nat) (c:UInt8),b.length<k->(b++(bif p c.toNat then(bif c==10 then [92,110]else [c])else [])).length<k+2:=by
  intro b k c h;rw[List.length_append];cases p c.toNat<;>cases c==10<;>simp<;>omega
 have b1:=hlen b 1000 10 hb;have b2:=hlen _ 1002 91 b1;have b3:=hlen _ 1004 92 b2;have b4:=hlen _ 1006 94 b3;have b5:=hlen _ 1008 45 b4;rw[step (n+5) b 0 10 (by omega) (by omega) rfl (by decide),step (n+4) _ 1 91 (by omega) (by omega) rfl (by decide),step (n+3) _ 2 92 (by omega) (by omega) rfl (by decide),step (n+2) _ 3 94 (by omega) (by omega) rfl (by decide),step (n+1) _ 4 45 (by omega) (by omega) rfl (by decide)];rw[bI (by omega),qD];simp only;rw[aC (by rfl),aB (by exact decide_eq_true (Nat.le_trans (Nat.add_le_add_right (Nat.le_of_lt b5) _) (by decide)))];simp only[Jm,List.append_assoc];rfl
theorem yGt{b0:List UInt8}{p:Nat->Bool}{rs:List (List UInt8)}(hn:400<=n)(hb:b0.length<=2)(hrs:rs.flatten.length<=256)(hrl:rs.length<=256):fix (uM n) n (b0,rs,(rs.length:Int),0,wd p,())=some (b0++(rs.map uY).flatten++Jm p):=by
 have hl:∀ i,((rs.take i).map uY).flatten.length<=256:=by
  intro i;have h1:=Xz (rs.take i);have h2:(rs.take i).flatten.length<=rs.flatten.length:=by
   have:rs.flatten=(rs.take i).flatten++(rs.drop i).flatten:=by rw[<- List.flatten_append,List.take_append_drop]
   rw[this,List.length_append];omega
  omega
 have key:∀ k i m,i+k=rs.length->k<m->fix (uM n) m (b0++((rs.take i).map uY).flatten,rs,(rs.length:Int),(i:Int),wd p,())=some (b0++(rs.map uY).flatten++Jm p):=by
  intro k;induction k with
  |zero =>
   intro i m hi hm;have:=hl rs.length;rw[List.take_of_length_le (bA _)]at this;rw[bI hm,uM];simp only;rw[aC (by simp;omega),List.take_of_length_le (by omega)];exact yGs (by omega) (by rw[List.length_append];omega)
  |succ k ih =>
   intro i m hi hm;have hil:i<rs.length:=by omega
   have hli:=hl i;have Ya:=hl (i+1);have htk:rs.take (i+1)=rs.take i++[rs[i]]:=by rw[List.take_add_one,List.getElem?_eq_getElem hil];rfl
   have ih:=ih (i+1) (m-1) (by omega) (by omega);rw[htk,List.map_append,List.flatten_append]at ih Ya;simp only[List.map_cons,List.map_nil,List.flatten_cons,List.flatten_nil,List.append_nil]at ih Ya;rw[List.length_append]at Ya;have hri:rs[i].length<=256:=by
    have:∀ (l:List (List UInt8)) (r:List UInt8),r∈l->r.length<=l.flatten.length:=by
     intro l r;induction l with
     |nil=>intro h;simp at h
     |cons a l ih =>
      intro h;simp only[List.flatten_cons,List.length_append];rcases List.mem_cons.1 h with rfl|h
      ·omega
      ·have:=ih h;omega
    have:=this rs rs[i] (List.getElem_mem _);omega
   rw[bI (by omega),uM];simp only;rw[aI (by simp;omega),aB (fQ hil),gX hil,aW (x:=(i:Int)+1) (by omega) (by omega),show(i:Int)+1=((i+1:Nat):Int)from rfl];unfold uY at ih Ya;by_cases h2:rs[i].length>2
   ·rw[decide_eq_true h2]at ih Ya;simp only[cond_true]at ih Ya;rw[aI (by simp;omega),aB (by simp;omega),show(1:Int).toNat=1 from rfl,aB (by simp[aG];omega),aW (by omega) (by omega),aB (by simp;omega)];rw[show((rs[i].length:Int)-1).toNat=rs[i].length-1 by omega];rw[aB (by simp[aG];omega),aB (by rw[List.length_append,List.length_append];exact decide_eq_true (by simp only[aG];simp only[List.length_append]at Ya ⊢;omega))];rw[List.append_assoc b0];exact ih
   ·rw[decide_eq_false h2]at ih Ya;simp only[cond_false]at ih Ya;rw[aC (by simp;omega),aB (by rw[List.length_append];exact decide_eq_true (by simp only[aG];omega))];rw[List.append_assoc b0];exact ih
 have:=key rs.length 0 n (by omega) (by omega);simpa using this
theorem zMt{b0:List UInt8}{p:Nat->Bool}(hn:400<=n)(hb:b0.length<=2):qE n (bG p,b0,wd p,())=some (b0++jY (fM p) 257 0++Jm p):=by
 unfold qE;simp only;have hbl:=Xj p;rw[aB (by simp[room];omega),Da];have hfin:∀ g,uN n g (b0,bN (bG p),((bG p).length:Int),((bG p).length:Int),wd p,bN ((bG p).filter λc=>!(lJ.contains c)),())=some (b0++jY (fM p) 257 0++Jm p):=by
  intro g;unfold uN;simp only;have hfl:=zRn (fM p);rw[aC (by simp),yKc,zMs,yRt (by omega) (by omega) (yKf _)];simp only[aK];have h1:=Nh (jK (fM p) 0);have h2:=@zRl [] (jK (fM p) 0);rw[yGt hn hb (by rw[h1];omega) (by omega),zDe (fM p) 256 0 257 (by omega) (by omega)]
 have key:∀ k i m,i+k=(bG p).length->k<m->fix (uN n) m (b0,bN (bG p),((bG p).length:Int),(i:Int),wd p,bN (((bG p).take i).filter λc=>!(lJ.contains c)),())=some (b0++jY (fM p) 257 0++Jm p):=by
  intro k;induction k with
  |zero =>
   intro i m hi hm;rw[bI hm,List.take_of_length_le (by omega),show i=(bG p).length by omega];exact hfin _
  |succ k ih =>
   intro i m hi hm;have hil:i<(bG p).length:=by omega
   have ih:=ih (i+1) (m-1) (by omega) (by omega);have htk:(bG p).take (i+1)=(bG p).take i++[(bG p)[i]]:=by rw[List.take_add_one,List.getElem?_eq_getElem hil];rfl
   rw[htk,List.filter_append]at ih;rw[bI (by omega),uN];simp only;rw[aI (by simp;omega),aB (fQ (by rw[Da];exact hil)),zYx hil,apart_eq,aW (by omega) (by omega),show(i:Int)+1=((i+1:Nat):Int)from rfl];have hfl:(((bG p).take i).filter λc=>!(lJ.contains c)).length<=256:=by
    have:=List.length_filter_le (λc=>!(lJ.contains c)) ((bG p).take i);rw[List.length_take]at this;omega
   cases hc:lJ.contains (bG p)[i]
   ·simp only[Bool.not_false,cond_true];rw[List.filter_cons_of_pos (by show(!(lJ.contains _))=true;rw[hc];rfl),List.filter_nil]at ih;rw[aB (by rw[Da,Nat.ble_eq];unfold room;simp only[List.length_cons,List.length_nil];omega)];have e:∀ (l:List UInt8) (c:UInt8),bN (l++[c])=bN l++[(c.toNat:Int)]:=λl c=>by simp[bN]
    rw[e]at ih;exact ih
   ·simp only[Bool.not_true,cond_false];rw[List.filter_cons_of_neg (by show ¬ (!(lJ.contains _))=true;rw[hc];simp),List.filter_nil,List.append_nil]at ih;exact ih
 have:=key (bG p).length 0 n (by omega) (by omega);simpa [bN]using this
theorem yAt{p:Nat->Bool}(hn:400<=n):Hr n (wd p)=some (Ca p):=by
 unfold Hr;simp only;rw[Qh,aK];have h93:=zMr (n:=n) p (c:=93) (by omega);have hj:(ob (wT n (wd p,93)) λy4=>br y4 (chk (decide ([91].length+([93]:List UInt8).length<=aG)) (jn (qE n) (bG p,[91]++[93],wd p,()))) (jn (qE n) (bG p,[91],wd p,())))=some (Xy p):=by
  rw[show(93:Int)=((93:Nat):Int)from rfl,h93,aK];unfold Xy Xx;cases p 93
  ·simp only[aZ,fC,cond_false,List.append_nil];exact zMt hn (by simp)
  ·simp only[bQ,fC,cond_true];rw[aB (by decide)];exact zMt hn (by simp)
 rw[hj];unfold Ca;match bG p with
 |[]=>rfl
 |[c]=>
  rw[aC (by rfl),aI (by rfl),aB (by rfl),show aR 0 [c] 0=c from rfl,yRv];rfl
 |a::b::l =>
  rw[aC (by simp;omega),aC (by simp;omega)];rw[show(((a::b::l).length:Int)==256)=((a::b::l).length==256)by rw[Bool.eq_iff_iff,beq_iff_eq,beq_iff_eq];omega];simp only;cases((a::b::l).length==256)
  ·cases(a::b::l==[45,94])<;>rfl
  ·rfl
end
end Go.Dec
namespace Go.Dec
def Ru (p:Nat->Bool):List UInt8:=(bif p 10 then [92,110] else [])++((bif p 91 then [91] else [])++((bif p 92 then [92] else [])++(bif bG p==[45,94] then [45,94,93] else ((bif p 94 then [94] else [])++((bif p 45 then [45] else [])++[93])))))
theorem Yb{p:Nat->Bool}{i:Nat}(hi:i<256):p i=true<->UInt8.ofNat i∈bG p:=by
 unfold bG;constructor
 ·intro h;exact List.mem_map.2 ⟨i,List.mem_filter.2 ⟨by simpa using hi,h⟩,rfl⟩
 ·intro h;obtain⟨j,hj,e⟩:=List.mem_map.1 h;obtain⟨h1,h2⟩:=List.mem_filter.1 hj;have hj2:j<256:=by simpa using h1
  have e2:=congrArg UInt8.toNat e;simp only[UInt8.toNat_ofNat']at e2;have:j=i:=by omega
  rw[<- this];exact h2
theorem zDf{p:Nat->Bool}{c:Nat}(hc:c<256):(bx p).getD ((c:Int).toNat) (Ty.dflt .bool)=p c:=by
 rw[Int.toNat_natCast];exact Kj false hc
section
variable {n:Nat}{p:Nat->Bool}
theorem zMu{out:List UInt8}(hn:300<=n)(ho:out.length<2000):vP n (out,bx p,())=some (out++(bif bG p==[45,94]then [45,94,93]else((bif p 94 then [94]else [])++((bif p 45 then [45]else [])++[93])))):=by
 unfold vP;simp only;have h94:=@zDf p 94 (by omega);have h45:=@zDf p 45 (by omega);rw[show((94:Nat):Int)=94 from rfl]at h94;rw[show((45:Nat):Int)=45 from rfl]at h45;rw[Ih hn,aK,h94,h45];cases bG p==[45,94]
 ·rw[aZ,aB (by decide),aB (by decide)];cases p 94<;>cases p 45
  ·rw[aZ,aB (by decide),aB (by decide),aZ,aB (by simp[aG];omega)];simp
  ·rw[aZ,aB (by decide),aB (by decide),bQ,aB (by simp[aG];omega),aB (by simp[aG];omega)];simp
  ·rw[bQ,aB (by simp[aG];omega),aB (by decide),aB (by decide),aZ,aB (by simp[aG];omega)];simp
  ·rw[bQ,aB (by simp[aG];omega),aB (by decide),aB (by decide),bQ,aB (by simp[aG];omega),aB (by simp[aG];omega)];simp
 ·rw[bQ,aB (by simp[aG];omega)];rfl
theorem zZb{out:List UInt8}{g:List UInt8 × Int × List Bool × Unit->Option (List UInt8)}{i:Nat}(hn:300<=n)(ho:out.length<1000)(hi:256<=i):nE n g (out,(i:Int),bx p,())=some (out++Ru p):=by
 unfold nE;simp only;have h10:=@zDf p 10 (by omega);have h91:=@zDf p 91 (by omega);have h92:=@zDf p 92 (by omega);rw[show((10:Nat):Int)=10 from rfl]at h10;rw[show((91:Nat):Int)=91 from rfl]at h91;rw[show((92:Nat):Int)=92 from rfl]at h92;have j4:∀ out:List UInt8,out.length<1010->vQ n (out,bx p,())=some (out++((bif p 92 then [92]else [])++(bif bG p==[45,94]then [45,94,93]else((bif p 94 then [94]else [])++((bif p 45 then [45]else [])++[93]))))):=by
  intro out ho;unfold vQ;simp only[fC];rw[aB (by decide),aB (by decide),h92];cases p 92
  ·rw[aZ,zMu hn (by omega)];simp
  ·rw[bQ,aB (by simp[aG];omega),zMu hn (by simp;omega)];simp
 have j3:∀ out:List UInt8,out.length<1005->vR n (out,bx p,())=some (out++((bif p 91 then [91]else [])++((bif p 92 then [92]else [])++(bif bG p==[45,94]then [45,94,93]else((bif p 94 then [94]else [])++((bif p 45 then [45]else [])++[93])))))):=by
  intro out ho;unfold vR;simp only[fC];rw[aB (by decide),aB (by decide),h91];cases p 91
  ·rw[aZ,j4 _ (by omega)];simp
  ·rw[bQ,aB (by simp[aG];omega),j4 _ (by simp;omega)];simp
 rw[aC (by simp;omega),aB (by decide),aB (by decide),h10,fC,fC];unfold Ru;cases p 10
 ·rw[aZ,j3 _ (by omega)];simp
 ·rw[bQ,aB (by simp[aG];omega),j3 _ (by simp;omega)];simp
theorem zZc{i:Nat}(hn:300<=n)(hi:i<256):tT n ([93,91,92,94,45,10],IntKind.wrap .u8 (i:Int))=some (lJ.contains (UInt8.ofNat i)):=by
 rw[IntWalk.u8_in _ (by omega)];have h:=Tg (n:=n) lJ (by simp[lJ];omega) (by simp[lJ]) (UInt8.ofNat i);rw[UInt8.toNat_ofNat']at h;rw[show i % 2 ^ 8=i by omega]at h;exact h
theorem yOj{out:List UInt8}{g:List UInt8 × Int × List Bool × Unit->Option (List UInt8)}{i:Nat}{t u:Int}{v:Bool}(hn:300<=n):∀ (f k m:Nat),k<256->256-k<=f->f<m ->
 fix (Ck n g) m (out,(i:Int),(k:Int),t,u,v,bx p,())=qQ n g (out,(i:Int),((wH (fM p) f k:Nat):Int),t,u,v,bx p,()):=by
 intro f;induction f with
 |zero=>intro k m h1 h2;omega
 |succ f ih =>
  intro k m h1 h2 hm;rw[bI (by omega),Ck];simp only;rw[aW (by omega) (by omega),show(k:Int)+1=((k+1:Nat):Int)from rfl];unfold wH;by_cases hk:k+1<256
  ·rw[aI (by simp;omega),aB (fQ (i:=k+1) (n:=256) hk),aB (by simp;omega),zDf hk,decide_eq_true hk,Bool.true_and,fC];have hpl:fM p (k+1)=(p (k+1)&&!(lJ.contains (UInt8.ofNat (k+1)))):=rfl;rw[hpl];cases hp:p (k+1)
   ·rw[aZ,Bool.false_and];rfl
   ·rw[bQ,zZc hn hk,aK,Bool.true_and];cases lJ.contains (UInt8.ofNat (k+1))
    ·rw[Bool.not_false,bQ];exact ih (k+1) (m-1) hk (by omega) (by omega)
    ·rw[Bool.not_true,aZ];rfl
  ·rw[aC (by simp;omega),decide_eq_false hk,fC];rfl
theorem yKg(hn:300<=n):∀ (d i f m:Nat) (out:List UInt8),256-i<=d->256-i<f->d<m->i<=256->out.length<=3*i+3 ->
 fix (nE n) m (out,(i:Int),bx p,())=some (out++jY (fM p) f i++Ru p):=by
 intro d;induction d with
 |zero =>
  intro i f m out h1 h2 hm hi ho;obtain⟨f,rfl⟩:∃ k,f=k+1:=⟨f-1,by omega⟩;rw[bI hm,zZb hn (by omega) (by omega),jY,if_neg (by omega)];simp
 |succ d ih =>
  intro i f m out h1 h2 hm hi ho;obtain⟨f,rfl⟩:∃ k,f=k+1:=⟨f-1,by omega⟩;by_cases hlt:i<256
  case neg=>rw[bI (by omega),zZb hn (by omega) (by omega),jY,if_neg hlt];simp
  rw[bI (by omega),nE];simp only;rw[aI (by simp;omega),aB (fQ (i:=i) (n:=256) hlt),aB (by simp;omega),zDf hlt,aW (x:=(i:Int)+1) (by omega) (by omega),show(i:Int)+1=((i+1:Nat):Int)from rfl];unfold jY;rw[if_pos hlt];have hpl:fM p i=(p i&&!(lJ.contains (UInt8.ofNat i))):=rfl;have next:fM p i=false->fix (nE n) (m-1) (out,((i+1:Nat):Int),bx p,())=some (out++(bif fM p i then(bif decide (i+2<=wH (fM p) 256 i)then [UInt8.ofNat i,45,UInt8.ofNat (wH (fM p) 256 i)]++jY (fM p) f (wH (fM p) 256 i+1)else [UInt8.ofNat i]++jY (fM p) f (i+1))else jY (fM p) f (i+1))++Ru p):=by
   intro h;rw[h];exact ih (i+1) f (m-1) out (by omega) (by omega) (by omega) (by omega) (by omega)
  cases hp:p i
  ·rw[Bool.not_false,bQ];exact next (by rw[hpl,hp];rfl)
  ·rw[Bool.not_true,aZ,zZc hn hlt,aK];cases ha:lJ.contains (UInt8.ofNat i)
   ·rw[aZ,fC,show fM p i=true by rw[hpl,hp,ha];rfl];simp only[cond_true];unfold Ot;simp only;rw[yOj hn 256 i n hlt (by omega) (by omega)];obtain⟨a1,a2,a3,a4⟩:=zDd (fM p) 256 i hlt (by omega);generalize wH (fM p) 256 i=k at *;unfold qQ;simp only;rw[aW (x:=(k:Int)-(i:Int)) (by omega) (by omega),IntWalk.u8_in (i:Int) (by omega),IntWalk.u8_in (k:Int) (by omega)];have hb1:fZ [(i:Int)]=[UInt8.ofNat i]:=rfl;have hb3:fZ [(i:Int),45,(k:Int)]=[UInt8.ofNat i,45,UInt8.ofNat k]:=rfl;rw[hb1,hb3];by_cases h3:i+2<=k
    ·rw[aI (by simp;omega),decide_eq_true h3,aB (by simp[aG];omega),aW (by omega) (by omega),show(k:Int)+1=((k+1:Nat):Int)from rfl];simp only[cond_true];rw[ih (k+1) f (m-1) _ (by omega) (by omega) (by omega) (by omega) (by simp;omega)];simp
    ·rw[aC (by simp;omega),decide_eq_false h3,aB (by simp[aG];omega),aW (by omega) (by omega),show(i:Int)+1=((i+1:Nat):Int)from rfl];simp only[cond_false];rw[ih (i+1) f (m-1) _ (by omega) (by omega) (by omega) (by omega) (by simp;omega)];simp
   ·rw[bQ];exact next (by rw[hpl,hp,ha];rfl)
theorem zSv(hn:300<=n):Ey n (bx p)=some (Xx p++jY (fM p) 257 0++Ru p):=by
 unfold Ey;simp only;have h93:=@zDf p 93 (by omega);rw[show((93:Nat):Int)=93 from rfl]at h93;rw[aB (by decide),aB (by decide),h93,fC,fC];unfold Xx Cm;simp only;have:=λout h=>yKg (n:=n) (p:=p) hn 256 0 257 n out (by omega) (by omega) (by omega) (by omega) h
 rw[show((0:Nat):Int)=0 from rfl]at this;cases p 93
 ·rw[aZ,this _ (by simp)];simp
 ·rw[bQ,aB (by decide),this _ (by simp)];rfl
theorem yKh(h2:2<=(bG p).length)(Yc:(bG p).length≠256):Ca p=Xx p++jY (fM p) 257 0++Ru p:=by
 have hsh:Ca p=bif bG p==[45,94]then [91,45,94,93]else Xy p:=by
  unfold Ca;match hb:bG p,h2,Yc with
  |[],h2,_=>simp at h2
  |[c],h2,_=>simp at h2
  |a::b::l,_,Yc =>
   simp only;have:((a::b::l).length==256)=false:=by rw[Bool.eq_false_iff,ne_eq,beq_iff_eq];exact Yc
   rw[this];rfl
 rw[hsh];cases hb:bG p==[45,94]
 ·unfold Xy Ru Jm;rw[hb];rfl
 ·have hb2:bG p=[45,94]:=by simpa using hb
  have hnot:∀ i,i<256->i≠45->i≠94->p i=false:=by
   intro i hi h1 h2;cases hp:p i
   ·rfl
   ·have:=(Yb (p:=p) hi).1 hp;rw[hb2]at this;simp only[List.mem_cons,List.not_mem_nil,or_false]at this;rcases this with h|h
    ·have:=congrArg UInt8.toNat h;simp only[UInt8.toNat_ofNat']at this;exact absurd (show i=45 by have h45:(45:UInt8).toNat=45:=rfl;omega) h1
    ·have:=congrArg UInt8.toNat h;simp only[UInt8.toNat_ofNat']at this;exact absurd (show i=94 by have h45:(94:UInt8).toNat=94:=rfl;omega) h2
  have hsc:jY (fM p) 257 0=[]:=by
   have hf:jK (fM p) 0=[]:=by
    rw[<- zMs,hb2];decide
   have:=zDe (fM p) 256 0 257 (by omega) (by omega);rw[hf]at this;exact this.symm
  unfold Xx Ru;rw[hsc,hb,hnot 93 (by omega) (by omega) (by omega),hnot 10 (by omega) (by omega) (by omega),hnot 91 (by omega) (by omega) (by omega),hnot 92 (by omega) (by omega) (by omega)];rfl
end
end Go.Dec
namespace Go.Dec
theorem yOk(p:Nat->Bool):(jY (fM p) 257 0).length<=256:=by
 rw[<- zDe (fM p) 256 0 257 (by omega) (by omega)];have h1:=Xz (kL (jK (fM p) 0));rw[Nh]at h1;have:=zRn (fM p);omega
theorem yKi(p:Nat->Bool):(Ca p).length<=270:=by
 unfold Ca;split
 ·simp
 ·unfold zMp;rename_i c _;cases c==10<;>cases Io.contains c<;>simp
 ·have hl:(Xy p).length<=270:=by
   have:=yOk p;simp only[Xy,Xx,Jm,List.length_append];cases p 93<;>cases p 10<;>cases p 91<;>cases p 92<;>cases p 94<;>cases p 45<;>simp<;>omega
  cases(bG p).length==256
  ·cases bG p==[45,94]
   ·exact hl
   ·simp
  ·simp
section
variable {n:Nat}{l:List Nd}
theorem yOl{i:Nat}{row:List (List UInt8)}(h:i<row.length):(inB (i:Int) row.length&&decide (0+row.length<=row.length))=true:=by
 rw[fQ h];simp
theorem zSw{row:List (List UInt8)}{i:Nat}{x:List UInt8}(h:i<row.length):(row.set i x).getD i []=x:=by
 rw[List.getD_eq_getElem?_getD,List.getElem?_set_self h];rfl
theorem zPp{row:List (List UInt8)}{i j:Nat}{x:List UInt8}(h:i≠j):(row.set i x).getD j []=row.getD j []:=by
 rw[List.getD_eq_getElem?_getD,List.getElem?_set_ne h,<- List.getD_eq_getElem?_getD]
end
end Go.Dec
namespace Go.Dec
section
variable {n:Nat}{l:List Nd}
end
end Go.Dec
