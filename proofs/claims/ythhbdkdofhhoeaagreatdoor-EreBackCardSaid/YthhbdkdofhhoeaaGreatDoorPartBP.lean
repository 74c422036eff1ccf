/- Part of a proof over this seat: a library of my own, and what it says of this seat. No statement is proved here. -/
import Derived.Test.YthhbdkdofhhoeaaGreatDoorPartBO
import Derived.Test.YthhbdkdofhhoeaaGreatDoorPartBJ
namespace Go.Dec
def gG:List UInt8:=[93,91,92,94,45,10]
def Cg:List UInt8:=[46,91,92,42,94,36]
def Pf (c:UInt8):List UInt8:=bif c==10 then [92,110] else bif Cg.contains c then [92,c] else [c]
def jH:List UInt8->List (List UInt8)
 | []=>[]
 | c::r=>match jH r with
  | (d::x)::rest=>bif d==c+1 then (c::d::x)::rest else [c]::(d::x)::rest
  | rest=>[c]::rest
def rP (r:List UInt8):List UInt8:=bif decide (r.length > 2) then r.take 1++[45]++r.drop (r.length - 1) else r
theorem Kv (c:UInt8) (r:List UInt8):∃ x rest,jH (c::r)=(c::x)::rest:=by
 unfold jH;split
 ·rename_i d x rest h;cases d==c+1
  ·exact ⟨_,_,rfl⟩
  ·exact ⟨_,_,rfl⟩
 ·exact ⟨_,_,rfl⟩
def zIh (out:List (List UInt8)) (b:Bool) (c:UInt8):List (List UInt8) :=bif b then out.set (out.length - 1) (out.getD (out.length - 1) []++[c]) else out++[[c]]
theorem zCg:∀ (s:List UInt8) (l c:UInt8),jH (s++[l,c])=zIh (jH (s++[l])) (c==l+1) c
 | [],l,c=>by
  simp only [List.nil_append,jH,zIh];cases c==l+1<;>rfl
 | a::s,l,c=>by
  have ih:=zCg s l c;simp only [List.cons_append] at ih ⊢;obtain ⟨h,t,hs⟩:∃ h t,s++[l]=h::t:=by cases s with
   | nil=>exact ⟨_,_,rfl⟩
   | cons h t=>exact ⟨_,_,rfl⟩
  have hs2:s++[l,c]=h::(t++[c]):=by rw [show [l,c]=[l]++[c] from rfl,<- List.append_assoc,hs];rfl
  obtain ⟨x,rest,e1⟩:=Kv h t;rw [hs2,hs] at ih ⊢;rw [e1] at ih;have hcc:∀ r,jH (a::r)=(match jH r with
    | (d::x)::rest=>bif d==a+1 then (a::d::x)::rest else [a]::(d::x)::rest
    | rest=>[a]::rest):=fun _=>rfl
  rw [hcc,hcc,e1,ih];unfold zIh;cases hb:c==l+1
  ·simp only [cond_false,List.cons_append];cases h==a+1<;>simp
  ·simp only [cond_true];cases rest with
   | nil =>
    simp only [List.length_cons,List.length_nil,Nat.zero_add,Nat.sub_self,List.set_cons_zero,List.getD_cons_zero,List.cons_append];cases h==a+1<;>simp
   | cons r1 rest =>
    simp only [List.length_cons,Nat.add_sub_cancel,List.set_cons_succ,List.getD_cons_succ];cases h==a+1<;>simp
section
variable {n:Nat}
theorem zGo {s:List UInt8}:∀ {s:List UInt8},(jH s).length<=s.length:=by
 intro s;induction s with
 | nil=>exact aQ _
 | cons c r ih =>
  unfold jH;split
  ·rename_i d x rest h;rw [h] at ih;simp only [List.length_cons] at ih ⊢;cases d==c+1<;>simp<;>omega
  ·simp only [List.length_cons];omega
theorem Gh:∀ s:List UInt8,(jH s).flatten=s
 | []=>rfl
 | c::r=>by
  have ih:=Gh r;unfold jH;split
  ·rename_i d x rest h;rw [h] at ih;simp only [List.flatten_cons,List.cons_append] at ih;cases d==c+1
   ·simp [<- ih]
   ·simp [<- ih]
  ·simp only [List.flatten_cons,List.singleton_append];rw [ih]
theorem zWn {s r:List UInt8}(h:r∈jH s):r.length<=s.length:=by
 have h2:=Gh s;have:∀ (l:List (List UInt8)),r∈l->r.length<=l.flatten.length:=by
  intro l;induction l with
  | nil=>intro h;simp at h
  | cons a l ih =>
   intro h;simp only [List.flatten_cons,List.length_append];rcases List.mem_cons.1 h with rfl|h
   ·omega
   ·have:=ih h;omega
 have:=this _ h;rw [h2] at this;exact this
theorem yDg {s:List UInt8}(hs:s.length<n) (hs2:s.length<100000) (hasc:∀ i,i+1<s.length->(s.getD i 0).toNat+1<256):Hr n s=some (jH s):=by
 unfold Hr;simp only;have hlen:∀ r:List UInt8,(jH r).length<=r.length:=fun r=>zGo (s:=[])
 have key:∀ k i m,i+k=s.length->k<m->fix (vM n) m (s,(s.length:Int),(i:Int),jH (s.take i),())=some (jH s):=by
  intro k;induction k with
  | zero =>
   intro i m hi hm;rw [cZ hm,vM];simp only;rw [aF (by simp;omega),List.take_of_length_le (by omega)]
  | succ k ih =>
   intro i m hi hm;have hil:i<s.length:=by omega
   have hit:s.take (i+1)=s.take i++[s[i]]:=by rw [List.take_add_one,List.getElem?_eq_getElem hil];rfl
   have hi1:IntKind.wrap .i64 ((i:Int)+1)=((i+1:Nat):Int):=by rw [dJ (by omega) (by omega)];rfl
   have hcut:(s.take (i+1)).drop i=[s[i]]:=by
    rw [hit,List.drop_append_of_le_length (by rw [List.length_take];omega),List.drop_of_length_le (by rw [List.length_take];omega)];rfl
   have hrl:=hlen (s.take i);have htl:(s.take i).length=i:=by rw [List.length_take];omega
   rw [htl] at hrl;have ih:=ih (i+1) (m-1) (by omega) (by omega);rw [hit] at ih;rw [cZ (by omega),vM];simp only;rw [aN (by simp;omega),hi1];cases i with
   | zero =>
    simp only [List.take_zero,jH,List.nil_append] at ih ⊢;rw [aF (by rfl),aC (by simp;omega),Int.toNat_natCast,Int.toNat_natCast,hcut,aC (by simp [room])];exact ih
   | succ j =>
    have hjl:j<s.length:=by omega
    have hjt:s.take (j+1)=s.take j++[s[j]]:=by rw [List.take_add_one,List.getElem?_eq_getElem hjl];rfl
    rw [hjt] at ih hrl ⊢;rw [List.append_assoc,List.singleton_append,zCg] at ih;obtain ⟨x,rest,e1⟩:∃ x rest,jH (s.take j++[s[j]])=x::rest:=by
     obtain ⟨a,b,hh⟩:=List.exists_cons_of_ne_nil (show s.take j++[s[j]]≠[] from fun h=>by have:=congrArg List.length h;rw [List.length_append,List.length_cons] at this;simp only [List.length_nil] at this;omega);rw [hh];obtain ⟨x,rest,h⟩:=Kv a b;exact ⟨_,_,h⟩
    generalize hR:jH (s.take j++[s[j]])=R at *;have hRp:1<=R.length:=by rw [e1];simp
    have hv7:IntKind.wrap .i64 ((R.length:Int)-1)=((R.length-1:Nat):Int):=by rw [dJ (by omega) (by omega)];omega
    have hj1:IntKind.wrap .i64 (((j+1:Nat):Int)-1)=(j:Int):=by rw [dJ (by omega) (by omega)];omega
    have hb:=hasc j (by omega);rw [List.getD_eq_getElem?_getD,List.getElem?_eq_getElem hjl] at hb;simp only [Option.getD_some] at hb;have hw:IntKind.wrap .u8 ((s[j].toNat:Int)+1)=((s[j].toNat+1:Nat):Int):=by rw [IntWalk.u8_in _ (by omega)];rfl
    rw [hv7,aN (by simp),aC (mK hil),kT hil,hj1,aC (mK hjl),kT hjl,hw];have he:((s[j+1].toNat:Int)==((s[j].toNat+1:Nat):Int))=(s[j+1]==s[j]+1):=by
     rw [Bool.eq_iff_iff,beq_iff_eq,beq_iff_eq,<- UInt8.toNat_inj,UInt8.toNat_add];have:(1:UInt8).toNat=1:=rfl;rw [this,Nat.mod_eq_of_lt hb];omega
    rw [he];unfold zIh at ih;cases hc:s[j+1]==s[j]+1
    ·rw [hc] at ih;simp only [cond_false] at ih;rw [bU,aC (by simp;omega),Int.toNat_natCast,Int.toNat_natCast,hcut,aC (by simp [room];omega)];exact ih
    ·rw [hc] at ih;simp only [cond_true] at ih;rw [eZ,aC (by rw [mK (by omega)];simp),Int.toNat_natCast,Nat.zero_add,aC (by simp;omega),show Ty.dflt .str=([]:List UInt8) from rfl,aC (by simp;omega),Int.toNat_natCast,Int.toNat_natCast,hcut];have hRl:(R.getD (R.length-1) []).length<=s.length:=by
      rw [List.getD_eq_getElem?_getD,List.getElem?_eq_getElem (by omega)];simp only [Option.getD_some];have:=zWn (s:=s.take j++[s[j]]) (r:=R[R.length-1]) (by rw [hR];exact List.getElem_mem _);rw [<- hjt,htl] at this;omega
     rw [aC (by exact decide_eq_true (by simp only [aH,List.length_cons,List.length_nil];omega)),aC (by rw [mK (by omega)];simp),aC (by simp;omega)];exact ih
 exact key s.length 0 n (by omega) (by omega)
end
def wP (q:Nat->Bool):Nat->Nat->Nat | 0,k=>k | f+1,k=>bif decide (k+1 < 256)&&q (k+1) then wP q f (k+1) else k
def eU (q:Nat->Bool):Nat->Nat->List UInt8
 | 0,_=>[]
 | f+1,i=>if i<256 then (bif q i then (bif decide (i+2<=wP q 256 i) then [UInt8.ofNat i,45,UInt8.ofNat (wP q 256 i)]++eU q f (wP q 256 i+1) else [UInt8.ofNat i]++eU q f (i+1)) else eU q f (i+1)) else []
theorem Uh (q:Nat->Bool):∀ (f k:Nat),k<256->256-k<=f->k<=wP q f k∧wP q f k<256∧(∀ j,k<j->j<=wP q f k->q j=true)∧(wP q f k+1=256∨q (wP q f k+1)=false)
 | 0,k,h1,h2=>by omega
 | f+1,k,h1,h2=>by
  unfold wP;cases hc:decide (k+1<256)&&q (k+1)
  ·simp only [cond_false];refine ⟨aQ _,h1,fun j a b=>by omega,?_⟩;simp only [Bool.and_eq_false_iff,decide_eq_false_iff_not] at hc;rcases hc with hc|hc
   ·left;omega
   ·right;exact hc
  ·simp only [cond_true];simp only [aD,decide_eq_true_eq] at hc;obtain ⟨a1,a2,a3,a4⟩:=Uh q f (k+1) hc.1 (by omega);refine ⟨by omega,a2,fun j b c=>?_,a4⟩;by_cases hj:j=k+1
   ·rw [hj];exact hc.2
   ·exact a3 j (by omega) c
def nT (i m:Nat):List UInt8:=(List.range' i m).map UInt8.ofNat
def iM (q:Nat->Bool) (i:Nat):List UInt8:=((List.range' i (256-i)).filter q).map UInt8.ofNat
theorem ofNat_succ {i:Nat}:UInt8.ofNat i+1=UInt8.ofNat (i+1):=by
 rw [<- UInt8.toNat_inj,UInt8.toNat_add];simp
theorem zMm (rest:List UInt8):∀ (m i:Nat),(∀ d r,rest=d::r->(d==UInt8.ofNat (i+m+1))=false)->jH (nT i (m+1)++rest)=nT i (m+1)::jH rest
 | 0,i,h=>by
  have e:nT i 1=[UInt8.ofNat i]:=rfl;rw [Nat.zero_add,e,List.singleton_append];cases rest with
  | nil=>rfl
  | cons d r =>
   obtain ⟨x,rest,e1⟩:=Kv d r;have hd:=h d r rfl;rw [Nat.add_zero,<- ofNat_succ] at hd;rw [jH,e1];simp only [hd,cond_false]
 | m+1,i,h=>by
  have e:∀ m,nT i (m+1)=UInt8.ofNat i::nT (i+1) m:=fun m=>by simp [nT,List.range'_succ]
  have ih:=zMm rest m (i+1) (fun d r hr=>by have:=h d r hr;rw [show i+1+m+1=i+(m+1)+1 by omega];exact this);have e2:nT (i+1) (m+1)=UInt8.ofNat (i+1)::nT (i+1+1) m:=by simp [nT,List.range'_succ]
  rw [e (m+1),List.cons_append,jH,ih,e2];simp only [ofNat_succ,beq_self_eq_true,cond_true]
theorem yAe {q:Nat->Bool}{i:Nat}(hi:i<256) (h:q i=false):iM q i=iM q (i+1):=by
 unfold iM;rw [show 256-i=(256-(i+1))+1 by omega,List.range'_succ,List.filter_cons_of_neg (by simp [h])]
theorem zGp {q:Nat->Bool}:∀ (m i:Nat),i+m<=256->(∀ j,i<=j->j<i+m->q j=true)->iM q i=nT i m++iM q (i+m)
 | 0,i,_,_=>by simp [nT]
 | m+1,i,h1,h2=>by
  have ih:=zGp m (i+1) (by omega) (fun j a b=>h2 j (by omega) (by omega));have e:iM q i=UInt8.ofNat i::iM q (i+1):=by
   unfold iM;rw [show 256-i=(256-(i+1))+1 by omega,List.range'_succ,List.filter_cons_of_pos (h2 i (by omega) (by omega)),List.map_cons]
  rw [e,ih,show i+(m+1)=i+1+m by omega];simp [nT,List.range'_succ]
theorem zTm {q:Nat->Bool}{i:Nat}{d:UInt8}{r:List UInt8}(h:iM q i=d::r):∃ j,i<=j∧j<256∧d=UInt8.ofNat j∧q j=true:=by
 have hm:d∈iM q i:=by rw [h];simp
 unfold iM at hm;obtain ⟨j,hj,rfl⟩:=List.mem_map.1 hm;obtain ⟨h1,h2⟩:=List.mem_filter.1 hj;rw [List.mem_range'_1] at h1;exact ⟨j,h1.1,by omega,rfl,h2⟩
theorem Pg (i m:Nat):(nT i m).length=m:=by simp [nT]
theorem yAf {i j:Nat}(hi:i<256) (hj:j<256) (h:i≠j):(UInt8.ofNat i==UInt8.ofNat j)=false:=by
 rw [Bool.eq_false_iff,ne_eq,beq_iff_eq,<- UInt8.toNat_inj,UInt8.toNat_ofNat',UInt8.toNat_ofNat'];omega
theorem zGq (q:Nat->Bool):∀ (n i f:Nat),256-i<=n->256-i<f->((jH (iM q i)).map rP).flatten=eU q f i:=by
 intro n;induction n with
 | zero =>
  intro i f h hf;obtain ⟨f,rfl⟩:∃ k,f=k+1:=⟨f-1,by omega⟩;have e:iM q i=[]:=by unfold iM;rw [show 256-i=0 by omega];rfl
  rw [e];unfold eU;rw [if_neg (by omega)];rfl
 | succ n ih =>
  intro i f h hf;obtain ⟨f,rfl⟩:∃ k,f=k+1:=⟨f-1,by omega⟩;by_cases hi:i<256
  case neg =>
   have e:iM q i=[]:=by unfold iM;rw [show 256-i=0 by omega];rfl
   rw [e];unfold eU;rw [if_neg hi];rfl
  unfold eU;rw [if_pos hi];cases hq:q i
  ·simp only [cond_false];rw [yAe hi hq];exact ih (i+1) f (by omega) (by omega)
  ·simp only [cond_true];obtain ⟨a1,a2,a3,a4⟩:=Uh q 256 i hi (by omega);generalize hk:wP q 256 i=k at *;have hrest:∀ (m:Nat),i+m=k->∀ d r,iM q (k+1)=d::r->(d==UInt8.ofNat (i+m+1))=false:=by
    intro m hm d r hr;obtain ⟨j,b1,b2,rfl,b4⟩:=zTm hr;rw [hm];refine yAf b2 (by omega) ?_;intro hj;subst hj;rcases a4 with a4|a4
    ·omega
    ·rw [a4] at b4;simp at b4
   have hF:=zGp (q:=q) (k-i+1) i (by omega) (fun j c1 c2=>by
    by_cases hj:j=i
    ·rw [hj];exact hq
    ·exact a3 j (by omega) (by omega))
   rw [show i+(k-i+1)=k+1 by omega] at hF;have hR:=zMm (iM q (k+1)) (k-i) i (hrest (k-i) (by omega));rw [hF,hR,List.map_cons,List.flatten_cons,ih (k+1) f (by omega) (by omega)];by_cases h2:i+2<=k
   ·rw [decide_eq_true h2];simp only [cond_true];have hs:rP (nT i (k-i+1))=[UInt8.ofNat i,45,UInt8.ofNat k]:=by
     unfold rP;rw [Pg,decide_eq_true (show k-i+1>2 by omega)];simp only [cond_true,Nat.add_sub_cancel];have h1:(nT i (k-i+1)).take 1=[UInt8.ofNat i]:=by simp [nT,List.range'_succ]
     have h3:(nT i (k-i+1)).drop (k-i)=[UInt8.ofNat k]:=by
      have:nT i (k-i+1)=nT i (k-i)++[UInt8.ofNat k]:=by
       unfold nT;rw [List.range'_concat,List.map_append,Nat.one_mul,show i+(k-i)=k by omega];rfl
      rw [this,List.drop_append_of_le_length (by rw [Pg];omega),List.drop_of_length_le (by rw [Pg];omega)];rfl
     rw [h1,h3];rfl
    rw [hs]
   ·rw [decide_eq_false h2];simp only [cond_false];have hs:rP (nT i (k-i+1))=nT i (k-i+1):=by
     unfold rP;rw [Pg,decide_eq_false (show ¬ k-i+1>2 by omega)];rfl
    rw [hs];by_cases h0:k=i
    ·subst h0;rw [Nat.sub_self];rfl
    ·have h1:k=i+1:=by omega
     subst h1;rw [show i+1-i+1=2 by omega,show nT i 2=[UInt8.ofNat i,UInt8.ofNat (i+1)] from rfl];obtain ⟨f,rfl⟩:∃ k,f=k+1:=⟨f-1,by omega⟩;have hq1:=a3 (i+1) (by omega) (by omega);have hend:wP q 256 (i+1)=i+1:=by
      unfold wP;rcases a4 with a4|a4
      ·rw [show decide (i+1+1<256)=false from decide_eq_false (by omega)];rfl
      ·rw [a4,Bool.and_false];rfl
     have hsc:eU q (f+1) (i+1)=[UInt8.ofNat (i+1)]++eU q f (i+1+1):=by
      rw [eU,if_pos (by omega),hq1,hend];simp only [cond_true];rw [decide_eq_false (by omega)];rfl
     rw [hsc];have hfu:eU q (f+1) (i+1+1)=eU q f (i+1+1):=by
      rw [<- ih (i+1+1) (f+1) (by omega) (by omega),<- ih (i+1+1) f (by omega) (by omega)]
     rw [hfu];rfl
end Go.Dec
namespace Go.Dec
theorem zWo:((List.range 256).all fun i=>decide (eB .u8 .and (i:Int) 63=((i % 64:Nat):Int)))=true:=by decide +kernel
theorem yDh {x k:Nat}(hk:k<64):nN .u64 (x:Int) (k:Int)=((x / 2 ^ k:Nat):Int):=by
 unfold nN;rw [Int.toNat_natCast,show IntKind.u64.bits=64 from rfl,Nat.min_eq_left (show k<=64 by omega)];rw [show ((2:Int) ^ k)=((2 ^ k:Nat):Int) by simp];rw [Int.fdiv_eq_ediv_of_nonneg _ (Int.natCast_nonneg _)];exact (Int.natCast_ediv x (2 ^ k)).symm
theorem zCh {n:Nat}(p:Nat->Bool) {c:Nat}(hc:c<256):tH n (wd p,(c:Int))=some (p c):=by
 unfold tH;simp only;have h1:=yFm hc;have h2:=nK zWo hc;simp only [decide_eq_true_eq] at h2;rw [aC (by decide),h1.1,aC (mK (i:=c / 64) (n:=4) (by omega)),aC (by simp;omega),Int.toNat_natCast,h2,aC (by simp;omega)];have hk:c / 64=0∨c / 64=1∨c / 64=2∨c / 64=3:=by omega
 have hg:(wd p).getD (c / 64) (Ty.dflt (.int .u64))=((Gg p (c / 64):Nat):Int):=by
  rcases hk with h|h|h|h<;>rw [h]<;>rfl
 rw [hg,yDh (by omega)];have hlt:=qU p (c / 64);rw [show (1:Int)=((1:Nat):Int) from rfl,yJc (Nat.lt_of_le_of_lt (Nat.div_le_self _ _) hlt) (by omega)];have ht:=Bz p (c / 64) (c % 64);rw [decide_eq_true (show c % 64<64 by omega),Bool.true_and,show 64*(c / 64)+c % 64=c by omega] at ht;rw [<- ht,Nat.testBit_eq_decide_div_mod_eq];congr 1;rw [Nat.and_one_is_mod,Bool.eq_iff_iff,beq_iff_eq,decide_eq_true_eq];omega
def bH (p:Nat->Bool):Nat->Bool:=fun i=>p i&&!(gG.contains (UInt8.ofNat i))
def Aj (p:Nat->Bool):List UInt8:=(bif p 10 then [92,110] else [])++((bif p 91 then [91] else [])++((bif p 92 then [92] else [])++((bif p 94 then [94] else [])++((bif p 45 then [45] else [])++[93]))))
def zIi (p:Nat->Bool):List UInt8:=[91]++(bif p 93 then [93] else [])
def Da (p:Nat->Bool):List UInt8:=zIi p++eU (bH p) 257 0++Aj p
def pG (p:Nat->Bool):List UInt8 :=
 match bB p with
 | []=>[]
 | [c]=>Pf c
 | l=>bif l.length==256 then [46] else bif l==[45,94] then [91,45,94,93] else Da p
theorem zWp (l:List UInt8):lJ (bF l)=l:=by
 simp [lJ,bF,List.map_map,Function.comp_def]
theorem zWq:((List.range 256).all fun i=>decide (Go.Lib.indexByte gG (UInt8.ofNat i)<0)==!(gG.contains (UInt8.ofNat i)))=true:=by decide +kernel
theorem zMn:((List.range 256).all fun i=>decide (Go.Lib.indexByte Cg (UInt8.ofNat i)≥0)==Cg.contains (UInt8.ofNat i))=true:=by decide +kernel
theorem apart_eq {n:Nat}{ρ:Type}(d:UInt8) (X Y:Option ρ):(ob (strings_IndexByte n ([93,91,92,94,45,10],(d.toNat:Int))) fun y=>br (decide (y<0)) X Y)=bif !(gG.contains d) then X else Y:=by
 have:=nK zWq d.toNat_lt;rw [beq_iff_eq,Cx] at this;unfold strings_IndexByte;simp only [aP,Int.toNat_natCast];rw [show (d.toNat).toUInt8=d from Cx d,<- zVy,<- this];rfl
theorem yDi {n:Nat}(d:UInt8):Hq n (d.toNat:Int)=some (Pf d):=by
 have:=nK zMn d.toNat_lt;rw [beq_iff_eq,Cx] at this;unfold Hq Pf;simp only;have hb:lJ [(d.toNat:Int)]=[d]:=by simp [lJ]
 rw [show ((d.toNat:Int)==10)=(d==10) by rw [yJf];exact eqI 10];unfold strings_IndexByte;simp only [aP,Int.toNat_natCast];rw [show (d.toNat).toUInt8=d from Cx d,hb];cases d==10
 ·simp only [bU,cond_false];rw [show ([46,91,92,42,94,36]:List UInt8)=Cg from rfl,this,aC (by simp [aH]),zVy];cases Cg.contains d<;>rfl
 ·rfl
theorem zWr (r:List UInt8):(rP r).length<=r.length:=by
 unfold rP;by_cases h:r.length>2
 ·rw [decide_eq_true h];simp;omega
 ·rw [decide_eq_false h];exact aQ _
theorem Ph:∀ l:List (List UInt8),((l.map rP).flatten).length<=l.flatten.length
 | []=>aQ _
 | a::l=>by have:=Ph l;have:=zWr a;simp only [List.map_cons,List.flatten_cons,List.length_append];omega
theorem zTn (p:Nat->Bool):(bB p).filter (fun c=>!(gG.contains c))=iM (bH p) 0:=by
 unfold bB iM bH;rw [List.filter_map,List.filter_filter,<- List.range_eq_range'];congr 1;apply List.filter_congr;intro i _;simp only [Function.comp,Bool.and_comm]
theorem zWs (q:Nat->Bool):∀ i,i+1<(iM q 0).length->((iM q 0).getD i 0).toNat+1<256:=by
 intro i hi;have hp:(List.range' 0 256).Pairwise (· < ·):=List.pairwise_lt_range';have hq:((List.range' 0 256).filter q).Pairwise (· < ·):=hp.filter q;rw [List.pairwise_iff_getElem] at hq;unfold iM at hi ⊢;rw [Nat.sub_zero] at hi ⊢;rw [List.length_map] at hi;have h:=hq i (i+1) (by omega) hi (by omega);have hm:((List.range' 0 256).filter q)[i+1]∈(List.range' 0 256).filter q:=List.getElem_mem _;have hm2:=(List.mem_filter.1 hm).1;rw [List.mem_range'_1] at hm2;rw [List.getD_eq_getElem?_getD,List.getElem?_map,List.getElem?_eq_getElem (by omega)];simp only [Option.map_some,Option.getD_some,UInt8.toNat_ofNat'];omega
theorem zGr (q:Nat->Bool):(iM q 0).length<=256:=by
 unfold iM;rw [List.length_map];have:=List.length_filter_le q (List.range' 0 256);simpa using this
section
variable {n:Nat}
theorem zTo {b:List UInt8}{p:Nat->Bool}(hn:10<=n) (hb:b.length<1000):fix (nY n) n (b,(([[10],[91],[92],[94],[45]]:List (List UInt8)).length:Int),0,wd p,[[10],[91],[92],[94],[45]],())=some (b++Aj p):=by
 obtain ⟨n,rfl⟩:∃ m,n=m+6:=⟨n-6,by omega⟩;have has:∀ c:Nat,c<256->tH (n+6) (wd p,(c:Int))=some (p c):=fun c hc=>zCh p hc
 have h10:=has 10 (by omega);have h91:=has 91 (by omega);have h92:=has 92 (by omega);have h94:=has 94 (by omega);have h45:=has 45 (by omega);have step:∀ (m:Nat) (b:List UInt8) (i:Nat) (c:UInt8),i<5->b.length<1010->([[10],[91],[92],[94],[45]]:List (List UInt8)).getD i []=[c]->c.toNat<256 ->
   fix (nY (n+6)) (m+1) (b,5,(i:Int),wd p,[[10],[91],[92],[94],[45]],())=fix (nY (n+6)) m (b++(bif p c.toNat then (bif c==10 then [92,110] else [c]) else []),5,((i+1:Nat):Int),wd p,[[10],[91],[92],[94],[45]],()):=by
  intro m b i c hi hb hc hc2;rw [cZ (by omega),nY];simp only;rw [aN (by simp;omega),aC (by rw [mK (by exact hi)];rfl),Int.toNat_natCast,Nat.zero_add,aC (by simp;omega),show Ty.dflt .str=([]:List UInt8) from rfl,hc];rw [aC (by rfl),show bJ 0 [c] 0=c from rfl,has c.toNat hc2];simp only [aP,Nat.add_sub_cancel];rw [dJ (by omega) (by omega),show (i:Int)+1=((i+1:Nat):Int) from rfl];rw [show ([c]==[10])=(c==10) by simp];cases hp:p c.toNat
  ·simp only [bU,cond_false,List.append_nil];first|rfl|(rw [aC (by rfl)];done)|(rw [aC (by rfl),show bJ 0 [c] 0=c from rfl,has c.toNat hc2,hp];rfl)
  ·simp only [eZ,cond_true];cases c==10
   ·simp only [bU,cond_false];rw [aC (by rfl),aC (by simp [aH];omega)]
   ·simp only [eZ,cond_true];rw [aC (by simp [aH];omega)]
 have l1:∀ (x:Bool) (y:List UInt8),y.length<=2->(bif x then y else []).length<=2:=by intro x y h;cases x<;>simp [h]
 rw [show (([[10],[91],[92],[94],[45]]:List (List UInt8)).length:Int)=5 from rfl,show (0:Int)=((0:Nat):Int) from rfl];have hlen:∀ (b:List UInt8) (k:Nat) (c:UInt8),b.length<k->(b++(bif p c.toNat then (bif c==10 then [92,110] else [c]) else [])).length<k+2:=by
  intro b k c h;rw [List.length_append];cases p c.toNat<;>cases c==10<;>simp<;>omega
 have b1:=hlen b 1000 10 hb;have b2:=hlen _ 1002 91 b1;have b3:=hlen _ 1004 92 b2;have b4:=hlen _ 1006 94 b3;have b5:=hlen _ 1008 45 b4;rw [step (n+5) b 0 10 (by omega) (by omega) rfl (by decide),step (n+4) _ 1 91 (by omega) (by omega) rfl (by decide),step (n+3) _ 2 92 (by omega) (by omega) rfl (by decide),step (n+2) _ 3 94 (by omega) (by omega) rfl (by decide),step (n+1) _ 4 45 (by omega) (by omega) rfl (by decide)];rw [cZ (by omega),nY];simp only;rw [aF (by rfl),aC (by exact decide_eq_true (Nat.le_trans (Nat.add_le_add_right (Nat.le_of_lt b5) _) (by decide)))];simp only [Aj,List.append_assoc];rfl
theorem zTp {b0:List UInt8}{p:Nat->Bool}{rs:List (List UInt8)}(hn:400<=n) (hb:b0.length<=2) (hrs:rs.flatten.length<=256) (hrl:rs.length<=256):fix (rG n) n (b0,rs,(rs.length:Int),0,wd p,())=some (b0++(rs.map rP).flatten++Aj p):=by
 have hl:∀ i,((rs.take i).map rP).flatten.length<=256:=by
  intro i;have h1:=Ph (rs.take i);have h2:(rs.take i).flatten.length<=rs.flatten.length:=by
   have:rs.flatten=(rs.take i).flatten++(rs.drop i).flatten:=by rw [<- List.flatten_append,List.take_append_drop]
   rw [this,List.length_append];omega
  omega
 have key:∀ k i m,i+k=rs.length->k<m->fix (rG n) m (b0++((rs.take i).map rP).flatten,rs,(rs.length:Int),(i:Int),wd p,())=some (b0++(rs.map rP).flatten++Aj p):=by
  intro k;induction k with
  | zero =>
   intro i m hi hm;have:=hl rs.length;rw [List.take_of_length_le (aQ _)] at this;rw [cZ hm,rG];simp only;rw [aF (by simp;omega),List.take_of_length_le (by omega)];exact zTo (by omega) (by rw [List.length_append];omega)
  | succ k ih =>
   intro i m hi hm;have hil:i<rs.length:=by omega
   have hli:=hl i;have Pj:=hl (i+1);have htk:rs.take (i+1)=rs.take i++[rs[i]]:=by rw [List.take_add_one,List.getElem?_eq_getElem hil];rfl
   have ih:=ih (i+1) (m-1) (by omega) (by omega);rw [htk,List.map_append,List.flatten_append] at ih Pj;simp only [List.map_cons,List.map_nil,List.flatten_cons,List.flatten_nil,List.append_nil] at ih Pj;rw [List.length_append] at Pj;have hri:rs[i].length<=256:=by
    have:∀ (l:List (List UInt8)) (r:List UInt8),r∈l->r.length<=l.flatten.length:=by
     intro l r;induction l with
     | nil=>intro h;simp at h
     | cons a l ih =>
      intro h;simp only [List.flatten_cons,List.length_append];rcases List.mem_cons.1 h with rfl|h
      ·omega
      ·have:=ih h;omega
    have:=this rs rs[i] (List.getElem_mem _);omega
   rw [cZ (by omega),rG];simp only;rw [aN (by simp;omega),aC (mK hil),kT hil,dJ (x:=(i:Int)+1) (by omega) (by omega),show (i:Int)+1=((i+1:Nat):Int) from rfl];unfold rP at ih Pj;by_cases h2:rs[i].length>2
   ·rw [decide_eq_true h2] at ih Pj;simp only [cond_true] at ih Pj;rw [aN (by simp;omega),aC (by simp;omega),show (1:Int).toNat=1 from rfl,aC (by simp [aH];omega),dJ (by omega) (by omega),aC (by simp;omega)];rw [show ((rs[i].length:Int)-1).toNat=rs[i].length-1 by omega];rw [aC (by simp [aH];omega),aC (by rw [List.length_append,List.length_append];exact decide_eq_true (by simp only [aH];simp only [List.length_append] at Pj ⊢;omega))];rw [List.append_assoc b0];exact ih
   ·rw [decide_eq_false h2] at ih Pj;simp only [cond_false] at ih Pj;rw [aF (by simp;omega),aC (by rw [List.length_append];exact decide_eq_true (by simp only [aH];omega))];rw [List.append_assoc b0];exact ih
 have:=key rs.length 0 n (by omega) (by omega);simpa using this
theorem zCi {b0:List UInt8}{p:Nat->Bool}(hn:400<=n) (hb:b0.length<=2):nZ n (bB p,b0,wd p,())=some (b0++eU (bH p) 257 0++Aj p):=by
 unfold nZ;simp only;have hbl:=Oi p;rw [aC (by simp [room];omega),yE];have hfin:∀ g,rH n g (b0,bF (bB p),((bB p).length:Int),((bB p).length:Int),wd p,bF ((bB p).filter fun c=>!(gG.contains c)),())=some (b0++eU (bH p) 257 0++Aj p):=by
  intro g;unfold rH;simp only;have hfl:=zGr (bH p);rw [aF (by simp),zWp,zTn,yDg (by omega) (by omega) (zWs _)];simp only [aP];have h1:=Gh (iM (bH p) 0);have h2:=@zGo [] (iM (bH p) 0);rw [zTp hn hb (by rw [h1];omega) (by omega),zGq (bH p) 256 0 257 (by omega) (by omega)]
 have key:∀ k i m,i+k=(bB p).length->k<m->fix (rH n) m (b0,bF (bB p),((bB p).length:Int),(i:Int),wd p,bF (((bB p).take i).filter fun c=>!(gG.contains c)),())=some (b0++eU (bH p) 257 0++Aj p):=by
  intro k;induction k with
  | zero =>
   intro i m hi hm;rw [cZ hm,List.take_of_length_le (by omega),show i=(bB p).length by omega];exact hfin _
  | succ k ih =>
   intro i m hi hm;have hil:i<(bB p).length:=by omega
   have ih:=ih (i+1) (m-1) (by omega) (by omega);have htk:(bB p).take (i+1)=(bB p).take i++[(bB p)[i]]:=by rw [List.take_add_one,List.getElem?_eq_getElem hil];rfl
   rw [htk,List.filter_append] at ih;rw [cZ (by omega),rH];simp only;rw [aN (by simp;omega),aC (mK (by rw [yE];exact hil)),zMk hil,apart_eq,dJ (by omega) (by omega),show (i:Int)+1=((i+1:Nat):Int) from rfl];have hfl:(((bB p).take i).filter fun c=>!(gG.contains c)).length<=256:=by
    have:=List.length_filter_le (fun c=>!(gG.contains c)) ((bB p).take i);rw [List.length_take] at this;omega
   cases hc:gG.contains (bB p)[i]
   ·simp only [Bool.not_false,cond_true];rw [List.filter_cons_of_pos (by show (!(gG.contains _))=true;rw [hc];rfl),List.filter_nil] at ih;rw [aC (by rw [yE,Nat.ble_eq];unfold room;simp only [List.length_cons,List.length_nil];omega)];have e:∀ (l:List UInt8) (c:UInt8),bF (l++[c])=bF l++[(c.toNat:Int)]:=fun l c=>by simp [bF]
    rw [e] at ih;exact ih
   ·simp only [Bool.not_true,cond_false];rw [List.filter_cons_of_neg (by show ¬ (!(gG.contains _))=true;rw [hc];simp),List.filter_nil,List.append_nil] at ih;exact ih
 have:=key (bB p).length 0 n (by omega) (by omega);simpa [bF] using this
theorem zOh {p:Nat->Bool}(hn:400<=n):Bn n (wd p)=some (pG p):=by
 unfold Bn;simp only;rw [Iq,aP];have h93:=zCh (n:=n) p (c:=93) (by omega);have hj:(ob (tH n (wd p,93)) fun y4=>br y4 (chk (decide ([91].length+([93]:List UInt8).length<=aH)) (jn (nZ n) (bB p,[91]++[93],wd p,()))) (jn (nZ n) (bB p,[91],wd p,())))=some (Da p):=by
  rw [show (93:Int)=((93:Nat):Int) from rfl,h93,aP];unfold Da zIi;cases p 93
  ·simp only [bU,zSy,cond_false,List.append_nil];exact zCi hn (by simp)
  ·simp only [eZ,zSy,cond_true];rw [aC (by decide)];exact zCi hn (by simp)
 rw [hj];unfold pG;match bB p with
 | []=>rfl
 | [c] =>
  rw [aF (by rfl),aN (by rfl),aC (by rfl),show bJ 0 [c] 0=c from rfl,yDi];rfl
 | a::b::l =>
  rw [aF (by simp;omega),aF (by simp;omega)];rw [show (((a::b::l).length:Int)==256)=((a::b::l).length==256) by rw [Bool.eq_iff_iff,beq_iff_eq,beq_iff_eq];omega];simp only;cases ((a::b::l).length==256)
  ·cases (a::b::l==[45,94])<;>rfl
  ·rfl
end
end Go.Dec
namespace Go.Dec
theorem qJ {p:Nat->Bool}{i:Nat}(hi:i<256):p i=true<->UInt8.ofNat i∈bB p:=by
 unfold bB;constructor
 ·intro h;exact List.mem_map.2 ⟨i,List.mem_filter.2 ⟨by simpa using hi,h⟩,rfl⟩
 ·intro h;obtain ⟨j,hj,e⟩:=List.mem_map.1 h;obtain ⟨h1,h2⟩:=List.mem_filter.1 hj;have hj2:j<256:=by simpa using h1
  have e2:=congrArg UInt8.toNat e;simp only [UInt8.toNat_ofNat'] at e2;have:j=i:=by omega
  rw [<- this];exact h2
section
variable {n:Nat}{p:Nat->Bool}
end
end Go.Dec
namespace Go.Dec
def yGl (lo hi:Int):List UInt8 :=bif hi == -1 then (bif lo==0 then [42] else [92,123]++bX lo++[44,92,125]) else bif hi==lo then [92,123]++bX lo++[92,125] else [92,123]++bX lo++[44]++bX hi++[92,125]
def Ui:Pt->List UInt8 | .empty=>[] | .bytes p=>pG p | .bol=>[94] | .eol=>[36] | .cat a b=>Ui a++Ui b | .alt _ _=>[124] | .times a lo hi=>Ui a++yGl lo hi | .group a _=>[92,40]++Ui a++[92,41] | .ref m=>[92]++bX (m:Int)
theorem yAg (p:Nat->Bool):(eU (bH p) 257 0).length<=256:=by
 rw [<- zGq (bH p) 256 0 257 (by omega) (by omega)];have h1:=Ph (jH (iM (bH p) 0));rw [Gh] at h1;have:=zGr (bH p);omega
theorem zWt (p:Nat->Bool):(pG p).length<=270:=by
 unfold pG;split
 ·simp
 ·unfold Pf;rename_i c _;cases c==10<;>cases Cg.contains c<;>simp
 ·have hl:(Da p).length<=270:=by
   have:=yAg p;simp only [Da,zIi,Aj,List.length_append];cases p 93<;>cases p 10<;>cases p 91<;>cases p 92<;>cases p 94<;>cases p 45<;>simp<;>omega
  cases (bB p).length==256
  ·cases bB p==[45,94]
   ·exact hl
   ·simp
  ·simp
section
variable {n:Nat}{l:List Nd}
theorem yAh {i:Nat}{row:List (List UInt8)}(h:i<row.length):(inB (i:Int) row.length&&decide (0+row.length<=row.length))=true:=by
 rw [mK h];simp
theorem zHk {row:List (List UInt8)}{i:Nat}{x:List UInt8}(h:i<row.length):(row.set i x).getD i []=x:=by
 rw [List.getD_eq_getElem?_getD,List.getElem?_set_self h];rfl
theorem zEo {row:List (List UInt8)}{i j:Nat}{x:List UInt8}(h:i≠j):(row.set i x).getD j []=row.getD j []:=by
 rw [List.getD_eq_getElem?_getD,List.getElem?_set_ne h,<- List.getD_eq_getElem?_getD]
end
end Go.Dec
namespace Go.Dec
section
variable {n:Nat}{l:List Nd}
end
end Go.Dec
