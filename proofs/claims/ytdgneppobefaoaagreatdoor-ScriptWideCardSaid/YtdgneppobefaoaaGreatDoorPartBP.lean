/- Part of a proof over this seat: a library of my own, and what it says of this seat. No statement is proved here. -/
import Derived.Test.YtdgneppobefaoaaGreatDoorPartBO
import Derived.Test.YtdgneppobefaoaaGreatDoorPartBB
import Derived.KernelRfl
namespace Go.Dec
theorem Zr {α β γ:Type} (y:α) (f:α->Option γ) (g:β->Option γ):ob2 (some (.inl y)) f g=f y:=rfl
theorem zSn {α β γ:Type} (y:β) (f:α->Option γ) (g:β->Option γ):ob2 (some (.inr y)) f g=g y:=rfl
section
variable {n:Nat} {s:List UInt8} {i:Nat} {c:UInt8} (hi:i < s.length) (hl:s.length <= 100000) (hc:dF 0 s (i:Int)=c)
include hi hc
theorem Mg (b:List UInt8) (ext:Bool) (R):bU n (b,s,ext,(i:Int),R)=some (decide (Go.Lib.indexByte b c ≥ 0),s,ext,(i:Int),R):=by
 unfold bU
 try simp only
 rw [mP (decide_eq_true (by omega)),jK (zVd hi),hc]
 unfold strings_IndexByte
 try simp only
 rw [show ((c.toNat:Int)).toNat.toUInt8=c by simp,iA]
theorem zGk {b:List UInt8} (hb:Go.Lib.indexByte b c=-1) (ext:Bool) (R):bY n (b,s,ext,(i:Int),R)=some (false,s,ext,(i:Int),R):=by
 unfold bY
 try simp only
 rw [Mg hi hc,iA,hb]
 rw [mP (by rfl)]
include hl
theorem any_eq (ext:Bool) (R):eG n (s,ext,(i:Int),R)=some (.inl ((c.toNat:Int),s,ext,(i:Int)+1,R)):=by
 unfold eG
 try simp only
 rw [dM (by simp; omega),Ew (x:=(i:Int)+1) (by omega) (by omega),Ew (x:=(i:Int)+1 - 1) (by omega) (by omega),show (i:Int)+1 - 1=(i:Int) by omega,jK (zVd hi),hc]
omit hl in
theorem drop_at:∃ t,s.drop i=c :: t:=by
 refine ⟨s.drop (i+1),?_⟩
 rw [List.drop_eq_getElem_cons hi]
 unfold dF at hc
 rw [<- hc]
 simp [List.getD_eq_getElem?_getD,hi]
theorem zNw (h0:Go.Lib.indexByte [32,9] c=-1) (hn:10 < n) (hk:∀ t:List UInt8,gU n (c :: t,[32,9])=some (c :: t)) (ext:Bool) (R):bF n (s,ext,(i:Int),R)=some (s,ext,(i:Int),R):=by
 obtain ⟨t,ht⟩:=drop_at hi hc
 have hlen:t.length+1=s.length - i:=by
  have:=congrArg List.length ht
  simp at this
  omega
 have hb:qJ n (s,(i:Int))=some (i:Int):=by
  unfold qJ rJ
  try simp only
  rw [dM (by simp),dM (by simp; omega),jK (by simp; omega),Int.toNat_natCast,ht,iA]
  try simp only
  rw [hk t,iA]
  simp only [List.length_cons]
  rw [Ew (x:=((s.length:Int)) - ((t.length+1:Nat):Int)) (by omega) (by omega)]
  congr 1
  omega
 unfold bF
 try simp only
 rw [hb,iA]
end
theorem zTt (t:List UInt8):gU 5000 (63 :: t,[32,9])=some (63 :: t):=by
 have h:∀ l,strings_makeASCIISet 5000 [32,9]=some (l,true)->l.getD 63 false=false->gU 5000 (63 :: t,[32,9])=some (63 :: t):=by
  intro l hl hf
  unfold gU
  try simp only
  rw [dM (by rfl),dM (by rfl),dM (by rfl),hl,iA,mP (by rfl)]
  unfold strings_trimLeftASCII
  try simp only
  rw [zD (by omega),nJ]
  try simp only
  rw [mP (decide_eq_true (by simp <;> omega)),jK (by simp [inB] <;> omega)]
  unfold dL
  try simp only
  rw [show dF 0 (63 :: t) 0=(63:UInt8) from rfl,jK (by decide +kernel),jK (decide_eq_true (by decide)),iA]
  try simp only
  rw [show ((63:UInt8).toNat:Int).toNat=63 from rfl,show Ty.dflt .bool=false from rfl,hf,mP (by rfl),iA]
 exact h _ (by kernel_rfl:strings_makeASCIISet 5000 [32,9]=some (((List.replicate 256 false).set 32 true).set 9 true,true)) (by decide +kernel)
section
variable {s:List UInt8} {i:Nat} (hi:i < s.length) (hl:s.length <= 100000) (hc:dF 0 s (i:Int)=63)
include hi hc
theorem zKt (ext:Bool) (R):eX 5000 (false,s,ext,(i:Int),R)=some (.inl (0,0,0,false,s,ext,(i:Int),R)):=by
 unfold eX
 try simp only
 rw [Mg hi hc,iA,dM (by rfl),zGk hi hc (by rfl),iA,dM (by rfl),Mg hi hc,iA,dM (by rfl),dM (by rfl)]
 rfl
theorem zDr (ext:Bool) (R):fT 5000 (s,ext,(i:Int),R)=some (.inl (0,s,ext,(i:Int),R)):=by
 unfold fT
 try simp only
 rw [zKt hi hc,Zr]
 rw [mP (by rfl)]
include hl
theorem zKu (ext:Bool):gX 5000 (s,ext,(i:Int),0,false,0,0,0,0,0,0,false,0,[],[],0,0,0,[],false,false,[],[],[],[],[],()) =
  some (.inr (120,s,ext,(i:Int)+1,(i:Int),false,0,0,0,0,0,0,false,63,[],[],0,0,(-1),[],false,false,[],[],[],[],[],())):=by
 unfold gX
 try simp only
 rw [zDr hi hc,Zr]
 try simp only
 rw [zNw hi hl hc (by rfl) (by omega) zTt,iA]
 try simp only
 rw [zGk hi hc (by rfl),iA,dM (by rfl)]
 unfold jn jL
 try simp only
 rw [any_eq hi hl hc,Zr]
 try simp only
 rw [show strings_IndexByte 5000 ([125,58],((63:UInt8).toNat:Int))=some (-1) from by unfold strings_IndexByte; decide +kernel,iA,dM (by rfl),show strings_IndexByte 5000 ([113,81],((63:UInt8).toNat:Int))=some (-1) from by unfold strings_IndexByte; decide +kernel,iA,dM (by rfl)]
 unfold jn dY
 try simp only
 rw [mP (by rfl)]
 rfl
end
abbrev rS (s:List UInt8) (ext:Bool) (i:Int):=(s,ext,i,(0:Int),false,(0:Int),(0:Int),(0:Int),(0:Int),(0:Int),(0:Int),false,(0:Int),([]:List UInt8),([]:List UInt8),(0:Int),(0:Int),(0:Int),([]:List (List UInt8 × Int × Unit)),false,false,([]:List (List (NdT) × Bool × Unit)),([]:List (((Int × Int × Int × Unit) × (Int × Int × Int × Unit) × Bool × Unit) × Int × List UInt8 × List UInt8 × Int × Int × Int × List (List UInt8 × Int × Unit) × Bool × Bool × Unit)),([]:List (Int × Int × List UInt8 × Unit)),([]:List (Int × Int × List UInt8 × Unit)),([]:List (List UInt8 × Int)),())
section
variable {s:List UInt8} (hl:s.length <= 100000) (ext:Bool)
include hl
theorem zTu (g) {i:Nat} (hi:i < s.length) (hc:dF 0 s (i:Int)=10):bH 5000 g (rS s ext (i:Int))=g (rS s ext ((i:Int)+1)):=by
 unfold bH
 try simp only
 rw [mP (decide_eq_true (by omega)),Mg hi hc,iA,mP (by rfl)]
 try simp only
 rw [Ew (by omega) (by omega)]
theorem zKv:∀ (k i m:Nat),i+k <= s.length->k < m->(∀ j,i <= j->j < i+k->dF 0 s (j:Int)=10)->fix (bH 5000) m (rS s ext (i:Int))=fix (bH 5000) (m - k) (rS s ext ((i+k:Nat):Int))
 | 0,i,m,_,_,_=>rfl
 | k+1,i,m,h1,h2,h3=>by
  rw [zD (by omega),zTu hl ext _ (by omega) (h3 i (aI _) (by omega))]
  have:=zKv k (i+1) (m - 1) (by omega) (by omega) (fun j g1 g2=>h3 j (by omega) (by omega))
  rw [show (((i+1:Nat)):Int)=(i:Int)+1 by omega] at this
  rw [this,show m - 1 - k=m - (k+1) by omega,show i+1+k=i+(k+1) by omega]
omit hl in
theorem zQy (g) {i:Nat} (hi:s.length=i):bH 5000 g (rS s ext (i:Int))=some (.inl (rS s ext (i:Int))):=by
 unfold bH
 try simp only
 rw [dM (decide_eq_false (by omega)),dM (by rfl)]
 kernel_rfl
theorem zQz (g) {i:Nat} (hi:i < s.length) (hc:dF 0 s (i:Int)=63):∃ z,bH 5000 g (rS s ext (i:Int))=some (.inr (120,s,ext,(i:Int)+1,(i:Int),z)):=by
 refine ⟨(false,0,0,0,0,0,0,false,63,[],[],0,0,(-1),[],false,false,[],[],[],[],[],()),?_⟩
 unfold bH
 try simp only
 rw [mP (decide_eq_true (by omega)),Mg hi hc,iA,dM (by rfl)]
 try simp only
 rw [Mg hi hc,iA,dM (by rfl)]
 try simp only
 rw [zKu hi hl hc,zSn]
end
end Go.Dec
namespace Go.Dec
theorem zNx {k i:Nat} (h:i < k):dF 0 (List.replicate k (10:UInt8)) (i:Int)=10:=by
 unfold dF
 simp [List.getD_eq_getElem?_getD,List.getElem?_replicate,h]
def vM (k:Nat):List UInt8:=List.replicate 7 10++63 :: List.replicate (k - 8) 10
theorem zGl {k:Nat} (h:8 <= k):(vM k).length=k:=by simp [vM]; omega
theorem zWy {k i:Nat} (h:i < 7):dF 0 (vM k) (i:Int)=10:=by
 unfold dF vM
 rw [List.getD_eq_getElem?_getD,Int.toNat_natCast,dG (by simpa using h),List.getElem?_replicate,if_pos h]
 rfl
theorem zYa {k:Nat}:dF 0 (vM k) ((7:Nat):Int)=63:=by rfl
theorem zNy {s:List UInt8} {r:List UInt8} (h:s=10 :: r):strings_HasPrefix 5000 (s,[35,110,10])=some false:=by
 subst h
 unfold strings_HasPrefix eT
 try simp only
 by_cases hc:(((10 :: r:List UInt8).length:Int) ≥ (([35,110,10]:List UInt8).length:Int))
 ·rw [mP (decide_eq_true hc),jK (by simp at hc ⊢; omega),iA]
  simp
 ·rw [dM (decide_eq_false hc),iA]
theorem zRa {k:Nat} (h1:1 <= k) (h2:k <= 4000) (ext:Bool):gJ 5000 (List.replicate k 10,ext)=some ((false,([],([],()))),0,0):=by
 obtain ⟨r,hr⟩:∃ r,List.replicate k (10:UInt8)=10 :: r:=⟨List.replicate (k - 1) 10,by rw [<- List.replicate_succ]; congr 1; omega⟩
 have hl:(List.replicate k (10:UInt8)).length=k:=by simp
 have hw:dO 5000 (rS (List.replicate k 10) ext 0)=some (.inl (rS (List.replicate k 10) ext (k:Int))):=by
  unfold dO
  try simp only
  rw [show sH 5000 ()=some () from rfl,iA]
  have:=zKv (s:=List.replicate k 10) (by rw [hl]; omega) ext k 0 5000 (by rw [hl]; omega) (by omega) (fun j _ hj=>zNx (by omega))
  rw [Nat.zero_add] at this
  refine Eq.trans this ?_
  rw [zD (by omega)]
  exact zQy ext _ hl
 unfold gJ
 try simp only
 rw [dM (decide_eq_false (by rw [hl]; omega)),dM (by rw [hr]; rfl),zNy hr,iA,dM (by rfl)]
 unfold aV
 rw [hw,Zr,iA]
 rfl
theorem zNz {k:Nat} (h1:8 <= k) (h2:k <= 4000) (ext:Bool):gJ 5000 (vM k,ext)=some ((false,([],([],()))),7,120):=by
 have hr:vM k=10 :: (List.replicate 6 10++63 :: List.replicate (k - 8) 10):=rfl
 have hl:=zGl h1
 obtain ⟨z,hz⟩:=zQz (s:=vM k) (by rw [hl]; omega) ext (fix (bH 5000) (5000 - 7 - 1)) (i:=7) (by rw [hl]; omega) zYa
 have hw:dO 5000 (rS (vM k) ext 0)=some (.inr (120,vM k,ext,((7:Nat):Int)+1,((7:Nat):Int),z)):=by
  unfold dO
  try simp only
  rw [show sH 5000 ()=some () from rfl,iA]
  have:=zKv (s:=vM k) (by rw [hl]; omega) ext 7 0 5000 (by rw [hl]; omega) (by omega) (fun j _ hj=>zWy (by omega))
  rw [Nat.zero_add] at this
  refine Eq.trans this ?_
  rw [zD (by omega)]
  exact hz
 unfold gJ
 try simp only
 rw [dM (decide_eq_false (by rw [hl]; omega)),dM (by rw [hr]; rfl),zNy hr,iA,dM (by rfl)]
 unfold aV
 rw [hw,zSn,iA]
 rfl
theorem Tw {s:List UInt8} (h:4000 < s.length) (ext:Bool):gJ 5000 (s,ext)=some ((false,([],([],()))),0,2):=by
 unfold gJ
 try simp only
 rw [mP (decide_eq_true (by omega))]
theorem set_mid {a b:Int}:∀ (i k:Nat),(List.replicate i a++b :: List.replicate k b).set i a=List.replicate (i+1) a++List.replicate k b
 | 0,k=>by simp
 | i+1,k=>by
  rw [List.replicate_succ,List.cons_append,List.set_cons_succ,set_mid i k]
  simp [List.replicate_succ]
theorem zOa (k:Nat):kR (List.replicate k (10:Int))=List.replicate k 10:=by
 unfold kR
 rw [List.map_replicate]
 rfl
set_option maxRecDepth 100000 in
theorem zWz {w ext:Bool} {k:Nat} (h1:3900 <= k) (h2:k < 4100) (g) :
  gK 5000 g (w,ext,(k:Int),4100,List.replicate 4100 10,())=some true:=by
 have hrow:(List.replicate 4100 (10:Int)).length=4100:=by simp
 have htake:((List.replicate 4100 (10:Int)).drop 0).take k=List.replicate k 10:=by
  rw [List.drop_zero,List.take_replicate,Nat.min_eq_left (by omega)]
 have hset:(List.replicate 4100 (10:Int)).set (0+(7:Int).toNat) 63=List.replicate 7 10++63 :: List.replicate 4092 10:=by
  have:List.replicate 4100 (10:Int)=List.replicate 7 10++(10 :: List.replicate 4092 10):=by
   rw [<- List.replicate_succ,List.replicate_append_replicate]
  rw [this,show (0+(7:Int).toNat)=(List.replicate 7 (10:Int)).length+0 by simp,List.set_append_right _ _ (by simp)]
  simp
 have Yw:((List.replicate 4100 (10:Int)).set (0+(7:Int).toNat) 63).length=4100:=by rw [List.length_set,hrow]
 have zXa:kR ((((List.replicate 4100 (10:Int)).set (0+(7:Int).toNat) 63).drop 0).take k)=vM k:=by
  rw [hset,List.drop_zero,List.take_append,List.take_of_length_le (by simp; omega),show k - (List.replicate 7 (10:Int)).length=(k - 8)+1 by simp; omega,List.take_succ_cons,List.take_replicate,Nat.min_eq_left (by omega)]
  unfold kR vM
  simp [List.map_replicate]
 unfold gK
 try simp only
 rw [dM (decide_eq_false (by omega))]
 cases w with
 | true =>
  rw [mP rfl,jK (by rw [hrow]; rfl),jK (decide_eq_true (by rw [hrow]; decide)),jK (by rw [Yw]; simp; omega),jK (decide_eq_true (by rw [Yw,Int.toNat_natCast]; omega)),Int.toNat_natCast,zXa]
  by_cases h:4000 < k
  ·rw [Tw (by rw [zGl (by omega)]; exact h),iA,mP (decide_eq_true (by omega))]
   rfl
  ·rw [zNz (by omega) (by omega),iA,dM (decide_eq_false (by omega))]
   rfl
 | false =>
  rw [dM rfl,jK (by rw [hrow]; simp; omega),jK (decide_eq_true (by rw [hrow,Int.toNat_natCast]; omega)),Int.toNat_natCast,htake,zOa]
  by_cases h:4000 < k
  ·rw [Tw (by simpa using h),iA,mP (decide_eq_true (by omega))]
   rfl
  ·rw [zRa (by omega) (by omega),iA,dM (decide_eq_false (by omega))]
   rfl
theorem zOb {w ext:Bool} {k:Nat} (h1:3900 <= k) (h2:k < 4100):∀ (j i m:Nat),i+j=4100->j < m ->
  fix (gK 5000) m (w,ext,(k:Int),(i:Int),List.replicate i 10++List.replicate j 0,())=some true
 | 0,i,m,h,hm=>by
  have:i=4100:=by omega
  subst this
  rw [zD (by omega)]
  simp only [List.replicate_zero,List.append_nil]
  exact zWz h1 h2 _
 | j+1,i,m,h,hm=>by
  have hi:=zOb (w:=w) (ext:=ext) h1 h2 j (i+1) (m - 1) (by omega) (by omega)
  have hlen:(List.replicate i (10:Int)++List.replicate (j+1) 0).length=4100:=by simp; omega
  have hset:(List.replicate i (10:Int)++List.replicate (j+1) 0).set (0+(i:Int).toNat) 10=List.replicate (i+1) 10++List.replicate j 0:=by
   rw [Nat.zero_add,Int.toNat_natCast,List.replicate_succ (n:=j)]
   exact set_mid i j
  rw [zD (by omega),gK]
  try simp only
  rw [mP (decide_eq_true (by omega)),jK (by rw [hlen]; simp [inB]; omega),jK (decide_eq_true (by rw [hlen,Int.toNat_natCast]; omega)),hset,Ew (by omega) (by omega)]
  rw [show (((i+1:Nat)):Int)=(i:Int)+1 by omega] at hi
  exact hi
theorem Qh (x:Int × Bool × Bool) (h0:0 <= x.1) (h1:x.1 <= 65535):oD 5000 x=some true:=by
 obtain ⟨a,w,ext⟩:=x
 simp only at h0 h1
 obtain ⟨n,rfl⟩:∃ n:Nat,a=n:=⟨a.toNat,by omega⟩
 unfold oD
 try simp only
 rw [jK (by rfl),jK (by rfl),Ew (x:=(n:Int)) (by omega) (by omega)]
 have hm:Int.tmod (n:Int) 200=((n % 200:Nat):Int):=(Int.ofNat_tmod n 200).symm
 rw [hm,Ew (by omega) (by omega),show (3900:Int)+((n % 200:Nat):Int)=((3900+n % 200:Nat):Int) by omega]
 exact zOb (by omega) (by omega) 4100 0 5000 rfl (by omega)
end Go.Dec
