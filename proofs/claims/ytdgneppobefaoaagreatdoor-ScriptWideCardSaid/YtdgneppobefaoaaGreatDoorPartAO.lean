/- Part of a proof over this seat: a library of my own, and what it says of this seat. No statement is proved here. -/
import Derived.Calls
import Derived.Laws.AppendOwn
import Derived.Test.YtdgneppobefaoaaGreatDoorPartAC
import Derived.Orders
namespace Go.Ce
inductive AV where
 | bo (x:Bool) | it (k:IntKind) (n:Int) | st (l:List Nat) | fl (k:FloatKind) (x:Nat) | cx (k:FloatKind) (x y:Nat)
 | np | pt (id off:Nat) | ns | sl (id off len cap sz:Nat) (ex:Bool) | se (z:Bool) | nm | mp (id:Nat)
 | md (k:IntKind) (m r:Nat)
 | nf | fn (f:Fn) (fs cs:List AV) | ni | ic (t:TypeId) (v:AV) | ag (l:List AV) | tu (l:List AV)
abbrev Bt:=Nat->Option (Nat × Nat × Nat)
def Ez (ex:Bool) (cap c:Nat):Prop:=match ex with | true=>c=cap | false=>cap <= c
mutual
def AV.Rel (β:Bt):AV->Value->Prop
 | .bo x,v=>v=.bool x
 | .it k n,v=>v=.int k n
 | .st l,v=>∃ ba:ByteArray,v=.string ba∧ba.data.toList.map UInt8.toNat=l
 | .fl k x,v=>v=.float k x
 | .cx k x y,v=>v=.complex k x y
 | .np,v=>v=.pointer none
 | .pt id off,v=>∃ b o n,β id=some (b,o,n)∧v=.pointer (some ⟨b,o+off,none⟩)
 | .ns,v=>v=.slice none 0 0
 | .sl id off len cap sz ex,v=>∃ b o n c,β id=some (b,o,n)∧v=.slice (some ⟨b,o+off,none⟩) len c∧Ez ex cap c∧len <= c∧c <= maxLen∧o+off+c * sz <= n
 | .se z,v=>∃ a c,v=.slice (some a) 0 c∧c <= maxLen∧(z=true->c=0)
 | .nm,v=>v=.map none
 | .mp id,v=>∃ b n,β id=some (b,0,n)∧v=.map (some b)
 | .md k m r,v=>∃ n:Nat,v=.int k (.ofNat n)∧n < 65536∧n % m=r
 | .nf,v=>v=.nilFunc
 | .fn f fs cs,v=>∃ x y:List Value,v=.func f x.toArray y.toArray∧AV.aN β fs x∧AV.aN β cs y
 | .ni,v=>v=.nilIface
 | .ic t a,v=>∃ x,v=.iface t x∧a.Rel β x
 | .ag l,v=>∃ x:List Value,v=.agg x.toArray∧AV.aN β l x
 | .tu l,v=>∃ x:List Value,v=.tuple x.toArray∧AV.aN β l x
def AV.aN (β:Bt):List AV->List Value->Prop
 | [],vs=>vs=[]
 | a :: r,vs=>∃ x xs,vs=x :: xs∧a.Rel β x∧AV.aN β r xs
end
def Le (β β':Bt):Prop:=∀ id p,β id=some p->β' id=some p
theorem Le.refl (β:Bt):Le β β:=fun _ _ h=>h
theorem Le.trans {a b c:Bt} (h:Le a b) (h':Le b c):Le a c:=fun _ _ x=>h' _ _ (h _ _ x)
mutual
theorem AV.Rel.mono {β β':Bt} (hl:Le β β'):∀ {a:AV} {v:Value},a.Rel β v->a.Rel β' v
 | .bo _,_,h=>h
 | .it ..,_,h=>h
 | .st _,_,h=>h
 | .fl ..,_,h=>h
 | .cx ..,_,h=>h
 | .np,_,h=>h
 | .pt ..,_,⟨b,o,n,h,e⟩=>⟨b,o,n,hl _ _ h,e⟩
 | .ns,_,h=>h
 | .sl ..,_,⟨b,o,n,c,h,e⟩=>⟨b,o,n,c,hl _ _ h,e⟩
 | .se _,_,h=>h
 | .nm,_,h=>h
 | .mp _,_,⟨b,n,h,e⟩=>⟨b,n,hl _ _ h,e⟩
 | .md ..,_,h=>h
 | .nf,_,h=>h
 | .fn ..,_,⟨x,y,e,h1,h2⟩=>⟨x,y,e,AV.aN.mono hl h1,AV.aN.mono hl h2⟩
 | .ni,_,h=>h
 | .ic ..,_,⟨x,e,h⟩=>⟨x,e,AV.Rel.mono hl h⟩
 | .ag _,_,⟨x,e,h⟩=>⟨x,e,AV.aN.mono hl h⟩
 | .tu _,_,⟨x,e,h⟩=>⟨x,e,AV.aN.mono hl h⟩
theorem AV.aN.mono {β β':Bt} (hl:Le β β'):∀ {l:List AV} {vs:List Value},AV.aN β l vs->AV.aN β' l vs
 | [],_,h=>h
 | _ :: _,_,⟨x,xs,e,h,h'⟩=>⟨x,xs,e,AV.Rel.mono hl h,AV.aN.mono hl h'⟩
end
section zYt
variable {β:Bt}
theorem AV.aN.length:∀ {l:List AV} {vs:List Value},AV.aN β l vs->l.length=vs.length
 | [],_,h=>by simp only [AV.aN] at h; subst h; rfl
 | _ :: _,_,⟨x,xs,e,_,h'⟩=>by subst e; simp [AV.aN.length h']
theorem AV.aN.get:∀ {l:List AV} {vs:List Value},AV.aN β l vs->∀ {i:Nat} {a:AV},l[i]?=some a->∃ x,vs[i]?=some x∧a.Rel β x
 | [],_,_,_,_,hi=>by simp at hi
 | _ :: _,_,⟨x,xs,e,h,h'⟩,0,a,hi=>by subst e; simp only [List.getElem?_cons_zero,aA] at hi; subst hi; exact ⟨x,rfl,h⟩
 | _ :: _,_,⟨x,xs,e,h,h'⟩,i+1,a,hi=>by subst e; simp at hi; simpa using AV.aN.get h' hi
theorem AV.aN.Jq:∀ {l:List AV} {vs:List Value},l.length=vs.length->(∀ (i:Nat) (a:AV),l[i]?=some a->∃ x,vs[i]?=some x∧a.Rel β x)->AV.aN β l vs
 | [],[],_,_=>rfl
 | [],_ :: _,h,_=>by simp at h
 | _ :: _,[],h,_=>by simp at h
 | a :: l,x :: xs,hl,h=>by
  obtain ⟨y,hy,hr⟩:=h 0 a rfl
  simp at hy; subst hy
  exact ⟨x,xs,rfl,hr,AV.aN.Jq (by simpa using hl) fun i b hi=>by simpa using h (i+1) b (by simpa using hi)⟩
theorem AV.aN.append {l m:List AV} {vs us:List Value} (h:AV.aN β l vs) (h':AV.aN β m us):AV.aN β (l++m) (vs++us):=by
 induction l generalizing vs with
 | nil=>simp only [AV.aN] at h; subst h; exact h'
 | cons a l ih=>obtain ⟨x,xs,e,h1,h2⟩:=h; subst e; exact ⟨x,xs++us,rfl,h1,ih h2⟩
theorem AV.aN.take {l:List AV} {vs:List Value} (h:AV.aN β l vs) (n:Nat):AV.aN β (l.take n) (vs.take n):=by
 induction l generalizing vs n with
 | nil=>simp only [AV.aN] at h; subst h; simp [AV.aN]
 | cons a l ih=>obtain ⟨x,xs,e,h1,h2⟩:=h; subst e; cases n with
  | zero=>simp [AV.aN]
  | succ n=>exact ⟨x,xs.take n,rfl,h1,ih h2 n⟩
theorem AV.aN.drop {l:List AV} {vs:List Value} (h:AV.aN β l vs) (n:Nat):AV.aN β (l.drop n) (vs.drop n):=by
 induction l generalizing vs n with
 | nil=>simp only [AV.aN] at h; subst h; simp [AV.aN]
 | cons a l ih=>obtain ⟨x,xs,e,h1,h2⟩:=h; subst e; cases n with
  | zero=>exact ⟨x,xs,rfl,h1,h2⟩
  | succ n=>simpa using ih h2 n
theorem AV.aN.replicate {a:AV} {x:Value} (h:a.Rel β x):∀ n,AV.aN β (List.replicate n a) (List.replicate n x)
 | 0=>rfl
 | n+1=>⟨x,_,rfl,h,AV.aN.replicate h n⟩
theorem AV.aN.nil:AV.aN β [] []:=rfl
theorem AV.aN.single {a:AV} {x:Value} (h:a.Rel β x):AV.aN β [a] [x]:=⟨x,[],rfl,h,rfl⟩
end zYt
inductive T (α:Type) where
 | nil
 | node (l:T α) (v:Option α) (r:T α)
def cnd {α:Type} (b:Bool) (x y:α):α:=match b with | true=>x | false=>y
section
variable {α:Type}
def T.get:T α->Nat->Option α
 | .nil,_=>none
 | .node l v r,n=>cnd (Nat.beq n 0) v (cnd (Nat.beq (n % 2) 1) (l.get (n / 2)) (r.get (n / 2 - 1)))
def T.lf:T α->T α | .nil=>.nil | .node l _ _=>l
def T.rt:T α->T α | .nil=>.nil | .node _ _ r=>r
def T.vl:T α->Option α | .nil=>none | .node _ v _=>v
def T.set:Nat->T α->Nat->Option α->T α
 | 0,t,_,_=>t
 | k+1,t,n,x=>cnd (Nat.beq n 0) (.node t.lf x t.rt)
  (cnd (Nat.beq (n % 2) 1) (.node (T.set k t.lf (n / 2) x) t.vl t.rt) (.node t.lf t.vl (T.set k t.rt (n / 2 - 1) x)))
theorem T.dX (t:T α) (n:Nat):t.get n=if n=0 then t.vl else if n % 2=1 then t.lf.get (n / 2) else t.rt.get (n / 2 - 1):=by
 cases t with
 | nil=>simp [T.get,T.vl,T.lf,T.rt]
 | node l v r =>
  simp only [T.get,T.vl,T.lf,T.rt,cnd]
  by_cases h:n=0
  ·subst h; simp
  ·have hb:Nat.beq n 0=false:=by cases hb:Nat.beq n 0 with
    | true=>exact absurd (aG hb) h
    | false=>rfl
   rw [hb,if_neg h]
   by_cases h1:n % 2=1
   ·rw [if_pos h1,h1]
   ·have h0:n % 2=0:=by omega
    rw [if_neg h1,h0]
theorem T.zF:∀ (k:Nat) (t:T α) (n:Nat) (x:Option α) (m:Nat),(m ≠ n->(T.set k t n x).get m=t.get m)∧(n+1 < 2 ^ k->(T.set k t n x).get n=x)
 | 0,t,n,x,m=>⟨fun _=>rfl,fun h=>by simp at h⟩
 | k+1,t,n,x,m=>by
  unfold T.set
  by_cases h:n=0
  ·subst h
   have hb:Nat.beq 0 0=true:=rfl
   rw [hb]
   simp only [cnd]
   refine ⟨fun hm=>?_,fun _=>by rw [T.dX]; simp [T.vl]⟩
   rw [T.dX,T.dX t m]
   simp [hm,T.lf,T.rt]
  ·have hb:Nat.beq n 0=false:=by cases hb:Nat.beq n 0 with
    | true=>exact absurd (aG hb) h
    | false=>rfl
   rw [hb]
   by_cases h1:n % 2=1
   ·have hb1:Nat.beq (n % 2) 1=true:=by rw [h1]; rfl
    rw [hb1]
    simp only [cnd]
    refine ⟨fun hm=>?_,fun hk=>?_⟩
    ·rw [T.dX,T.dX t m]
     simp only [T.vl,T.lf,T.rt]
     split
     ·rfl
     ·split
      ·exact (T.zF k _ _ x _).1 (by omega)
      ·rfl
    ·rw [T.dX]
     simp only [h,h1,if_false,if_true,T.lf]
     refine (T.zF k _ _ x 0).2 ?_
     rw [Nat.pow_succ] at hk; omega
   ·have h0:n % 2=0:=by omega
    have hb1:Nat.beq (n % 2) 1=false:=by rw [h0]; rfl
    rw [hb1]
    simp only [cnd]
    refine ⟨fun hm=>?_,fun hk=>?_⟩
    ·rw [T.dX,T.dX t m]
     simp only [T.vl,T.lf,T.rt]
     split
     ·rfl
     ·split
      ·rfl
      ·exact (T.zF k _ _ x _).1 (by omega)
    ·rw [T.dX]
     simp only [h,h1,if_false,T.rt]
     refine (T.zF k _ _ x 0).2 ?_
     rw [Nat.pow_succ] at hk; omega
def big:Nat:=16777214
def T.put (t:T α) (n:Nat) (x:Option α):T α:=T.set 24 t n x
theorem T.dJ {t:T α} {n:Nat} (x:Option α) (h:n < big):(t.put n x).get n=x :=
 (T.zF 24 t n x 0).2 (by unfold big at h; omega)
theorem T.aT {t:T α} {n m:Nat} (x:Option α) (h:m ≠ n):(t.put n x).get m=t.get m:=(T.zF 24 t n x m).1 h
def T.strike (f:Nat->α->Bool):T α->Nat->Nat->T α
 | .nil,_,_=>.nil
 | .node l v r,a,d=>.node (l.strike f (a+d) (2 * d)) (match v with | some x=>cnd (f a x) (some x) none | none=>none) (r.strike f (a+2 * d) (2 * d))
theorem T.yL (f:Nat->α->Bool):∀ (t:T α) (a d n:Nat),(t.strike f a d).get n=match t.get n with | some x=>if f (a+d * n) x then some x else none | none=>none
 | .nil,_,_,_=>rfl
 | .node l v r,a,d,n=>by
  rw [T.dX,T.dX (.node l v r) n]
  simp only [T.strike,T.vl,T.lf,T.rt]
  by_cases h:n=0
  ·subst h
   simp only [if_true,Nat.mul_zero,Nat.add_zero]
   cases v with
   | none=>rfl
   | some x=>simp only [cnd]; cases f a x <;> rfl
  ·rw [if_neg h,if_neg h]
   by_cases h1:n % 2=1
   ·rw [if_pos h1,if_pos h1,T.yL f l]
    have:a+d+2 * d * (n / 2)=a+d * n:=by
     have:n=2 * (n / 2)+1:=by omega
     generalize n / 2=q at this; subst this
     rw [Nat.mul_add,Nat.mul_one,<- Nat.mul_assoc,Nat.mul_comm d 2]; omega
    rw [this]
   ·rw [if_neg h1,if_neg h1,T.yL f r]
    have:a+2 * d+2 * d * (n / 2 - 1)=a+d * n:=by
     have h2:n=2 * (n / 2 - 1)+2:=by omega
     generalize n / 2 - 1=q at h2; subst h2
     rw [Nat.mul_add,<- Nat.mul_assoc,Nat.mul_comm d 2]; omega
    rw [this]
def dI (c:Nat):Option TypeId:=match c / big with | 0=>none | n+1=>some n
def yM (c:Nat) (e:TypeId):Prop:=match dI c with | none=>True | some t=>e=t
inductive Blk where
 | cells (cs:List AV) (cls:Nat) (top shr:Bool)
 | map (es:List (AV × AV × Nat)) (clk:Nat)
 | mit (m since:Nat) (seen:List Nat) (stepped:Nat)
 | sit (l:List Nat) (pos:Nat)
 | dict (k:IntKind) (es:List (Nat × AV)) (qE:List Nat)
 | typed (t:TypeId) (cs:List AV)
 | ro (cs:List AV)
def lkN (n:Nat):List (Nat × AV)->Option AV
 | []=>none
 | p :: r=>cnd (Nat.beq n p.1) (some p.2) (lkN n r)
def aW (β:Bt):List (AV × AV × Nat)->List MapEntry->Prop
 | [],ms=>ms=[]
 | e :: r,ms=>∃ x xs,ms=x :: xs∧e.1.Rel β x.key∧e.2.1.Rel β x.val∧e.2.2=x.born∧aW β r xs
theorem aW.mono {β β':Bt} (hl:Le β β'):∀ {es:List (AV × AV × Nat)} {ms:List MapEntry},aW β es ms->aW β' es ms
 | [],_,h=>h
 | _ :: _,_,⟨x,xs,e,h1,h2,h3,h4⟩=>⟨x,xs,e,h1.mono hl,h2.mono hl,h3,aW.mono hl h4⟩
def Blk.Rel (β:Bt) (h:Array Obj) (b o n:Nat):Blk->Prop
 | .cells cs cls top _=>∃ c e fz,h[b]?=some (.cells c e fz)∧(c.size=n∧yM cls e)∧(top=true->∀ i,i < c.size->¬ (fz.1 <= i∧i < fz.2))∧∀ (i:Nat) (v:AV),cs[i]?=some v->∃ x,c[o+i]?=some x∧v.Rel β x
 | .map es clk=>o=0∧∃ ms:List MapEntry,h[b]?=some (.map ms.toArray clk)∧aW β es ms
 | .mit m since seen stepped=>o=0∧∃ bm nm,β m=some (bm,0,nm)∧h[b]?=some (.mapIter (some bm) since seen.reverse.toArray stepped)
 | .sit l pos=>o=0∧∃ ba:ByteArray,ba.data.toList.map UInt8.toNat=l∧h[b]?=some (.stringIter ba pos)
 | .dict k es qE=>o=0∧∃ (ms:List MapEntry) (clk:Nat),h[b]?=some (.map ms.toArray clk)∧(∀ e ∈ ms,∃ (m:Nat) (v:AV),e.key=.int k (Int.ofNat m)∧lkN m es=some v∧v.Rel β e.val)∧∀ m ∈ qE,∃ e ∈ ms,e.key=.int k (Int.ofNat m)
 | .typed t cs=>o=0∧∃ c:Array Value,h[b]?=some (.cells c t (0,0))∧c.size=n∧c.size=cs.length∧∀ (i:Nat) (v:AV),cs[i]?=some v->∃ x,c[i]?=some x∧v.Rel β x
 | .ro cs=>o+cs.length <= n∧∃ c e fz,h[b]?=some (.cells c e fz)∧∀ (i:Nat) (v:AV),cs[i]?=some v->∃ x,c[o+i]?=some x∧v.Rel β x
theorem Blk.Rel.mono {β β':Bt} {h h':Array Obj} {b o n:Nat} {B:Blk} (hl:Le β β') (hb:h'[b]?=h[b]?) (hr:B.Rel β h b o n):B.Rel β' h' b o n:=by
 cases B with
 | cells cs cls top shr =>
  obtain ⟨c,e,fz,h1,hn,h2,h3⟩:=hr
  exact ⟨c,e,fz,by rw [hb,h1],hn,h2,fun i v hv=>let ⟨x,hx,hr⟩:=h3 i v hv; ⟨x,hx,hr.mono hl⟩⟩
 | map es clk =>
  obtain ⟨h0,ms,h1,h2⟩:=hr
  exact ⟨h0,ms,by rw [hb,h1],h2.mono hl⟩
 | mit m since seen stepped =>
  obtain ⟨h0,bm,nm,h1,h2⟩:=hr
  exact ⟨h0,bm,nm,hl _ _ h1,by rw [hb,h2]⟩
 | sit l pos =>
  obtain ⟨h0,ba,h1,h2⟩:=hr
  exact ⟨h0,ba,h1,by rw [hb,h2]⟩
 | dict k es qE =>
  obtain ⟨h0,ms,clk,h1,h2,h3⟩:=hr
  exact ⟨h0,ms,clk,by rw [hb,h1],fun e he=>let ⟨m,v,e1,e2,e3⟩:=h2 e he; ⟨m,v,e1,e2,e3.mono hl⟩,h3⟩
 | typed t cs =>
  obtain ⟨h0,c,h1,hn,hz,h3⟩:=hr
  exact ⟨h0,c,by rw [hb,h1],hn,hz,fun i v hv=>let ⟨x,hx,hr⟩:=h3 i v hv; ⟨x,hx,hr.mono hl⟩⟩
 | ro cs =>
  obtain ⟨h0,c,e,fz,h1,h3⟩:=hr
  exact ⟨h0,c,e,fz,by rw [hb,h1],fun i v hv=>let ⟨x,hx,hr⟩:=h3 i v hv; ⟨x,hx,hr.mono hl⟩⟩
structure W where
 H:T Blk
 nx:Nat
def mX:Blk->Blk->Prop
 | .cells _ c t s,.cells _ c' t' s'=>c=c'∧(t=true->s=true)∧(t'=true->s'=true)∧¬ (t=true∧t'=true)
 | .ro _,.ro _=>True
 | _,_=>False
structure aX (lo:Nat) (β:Bt) (A:W) (w:World):Prop where
 lo_le:lo <= A.nx
 blk:∀ id B,A.H.get id=some B->∃ b o n,β id=some (b,o,n)∧b < w.heap.size∧B.Rel β w.heap b o n
 nx:∀ id,A.nx <= id->β id=none
 here:∀ id b o n,β id=some (b,o,n)->b < w.heap.size
 sep:∀ id id' B B' b o o' n n',id ≠ id'->A.H.get id=some B->A.H.get id'=some B'->β id=some (b,o,n)->β id'=some (b,o',n')->mX B B'
 side:∀ id id' B' b o o' n n',id < lo->lo <= id'->A.H.get id'=some B'->β id=some (b,o,n)->β id'=some (b,o',n')->False
def Own (lo:Nat) (β:Bt) (A:W) (b:Nat):Prop:=∃ id B o n,lo <= id∧A.H.get id=some B∧β id=some (b,o,n)
structure Go (lo:Nat) (β:Bt) (A:W) (w:World) (β':Bt) (A':W) (w':World):Prop where
 rel:aX lo β' A' w'
 ext:Le β β'
 nx:A.nx <= A'.nx
 size:w.heap.size <= w'.heap.size
 old:∀ b,b < w.heap.size->¬ Own lo β A b->w'.heap[b]?=w.heap[b]?
 back:∀ id B',id < A.nx->A'.H.get id=some B'->∃ B,A.H.get id=some B
 keep:∀ id,id < lo->A'.H.get id=A.H.get id
 fresh:∀ id b o n,A.nx <= id->β' id=some (b,o,n)->w.heap.size <= b∨Own lo β A b
 old':∀ id p,id < A.nx->β' id=some p->β id=some p
 os:w'.os=w.os
 tape:w'.tape=w.tape
 output:w'.output=w.output
theorem Go.refl {lo:Nat} {β:Bt} {A:W} {w:World} (h:aX lo β A w):Go lo β A w β A w :=
 ⟨h,.refl β,aI _,aI _,fun _ _ _=>rfl,fun _ B _ hb=>⟨B,hb⟩,fun _ _=>rfl,fun id b o n hi hb=>(by rw [h.nx id hi] at hb; cases hb),fun _ _ _ h=>h,rfl,rfl,rfl⟩
theorem Go.own {lo:Nat} {β β':Bt} {A A':W} {w w':World} (h:Go lo β A w β' A' w') {b:Nat} (hb:Own lo β' A' b):w.heap.size <= b∨Own lo β A b:=by
 obtain ⟨id,B,o,n,h1,h2,h3⟩:=hb
 rcases aY id A.nx with hi | hi
 ·obtain ⟨B0,hB⟩:=h.back id B hi h2
  exact .inr ⟨id,B0,o,n,h1,hB,h.old' id _ hi h3⟩
 ·exact h.fresh id b o n hi h3
theorem Go.trans {lo:Nat} {β β' β'':Bt} {A A' A'':W} {w w' w'':World} (h:Go lo β A w β' A' w') (h':Go lo β' A' w' β'' A'' w''):Go lo β A w β'' A'' w'' where
 rel:=h'.rel
 ext:=h.ext.trans h'.ext
 nx:=Nat.le_trans h.nx h'.nx
 size:=Nat.le_trans h.size h'.size
 old:=fun b hb hn=>(h'.old b (Nat.lt_of_lt_of_le hb h.size) fun ho=>(h.own ho).elim (fun hge=>by omega) hn).trans (h.old b hb hn)
 back:=fun id B hi hB=>by
  obtain ⟨B1,h1⟩:=h'.back id B (Nat.lt_of_lt_of_le hi h.nx) hB
  exact h.back id B1 hi h1
 keep:=fun id hi=>(h'.keep id hi).trans (h.keep id hi)
 fresh:=fun id b o n hi hb=>by
  rcases aY id A'.nx with h1 | h1
  ·exact h.fresh id b o n hi (h'.old' id _ h1 hb)
  ·rcases h'.fresh id b o n h1 hb with h2 | h2
   ·exact .inl (Nat.le_trans h.size h2)
   ·exact h.own h2
 old':=fun id p hi hb=>h.old' id p hi (h'.old' id p (Nat.lt_of_lt_of_le hi h.nx) hb)
 os:=h'.os.trans h.os
 tape:=h'.tape.trans h.tape
 output:=h'.output.trans h.output
end
end Go.Ce
namespace Go.Ce
def upd (β:Bt) (id:Nat) (p:Nat × Nat × Nat):Bt:=fun i=>if i=id then some p else β i
theorem upd_same (β:Bt) (id:Nat) (p:Nat × Nat × Nat):upd β id p id=some p:=by simp [upd]
theorem aJ (β:Bt) {id i:Nat} (p:Nat × Nat × Nat) (h:i ≠ id):upd β id p i=β i:=by simp [upd,h]
theorem kS {lo:Nat} {β:Bt} {A:W} {w:World} (h:aX lo β A w) (p:Nat × Nat × Nat):Le β (upd β A.nx p):=fun id q hq=>by
 rw [aJ]
 ·exact hq
 ·rintro rfl; rw [h.nx _ (aI _)] at hq; cases hq
section
variable {lo:Nat} {β:Bt} {A:W} {w w':World}
theorem aX.lt (h:aX lo β A w) {id:Nat} {B:Blk} (hB:A.H.get id=some B):id < A.nx:=by
 obtain ⟨b,o,n,hb,_⟩:=h.blk id B hB
 rcases aY id A.nx with h1 | h1
 ·exact h1
 ·rw [h.nx id h1] at hb; cases hb
theorem Go.same (h:aX lo β A w) (hh:w'.heap=w.heap) (h1:w'.os=w.os) (h2:w'.tape=w.tape) (h3:w'.output=w.output):Go lo β A w β A w' where
 rel:=⟨h.lo_le,by rw [hh]; exact h.blk,h.nx,by rw [hh]; exact h.here,h.sep,h.side⟩
 ext:=.refl β
 nx:=aI _
 size:=by rw [hh]; exact aI _
 old:=fun b _ _=>by rw [hh]
 back:=fun id B _ hB=>⟨B,hB⟩
 keep:=fun _ _=>rfl
 fresh:=fun id b o n hi hb=>by rw [h.nx id hi] at hb; cases hb
 old':=fun _ _ _ hb=>hb
 os:=h1
 tape:=h2
 output:=h3
theorem Go.new (h:aX lo β A w) (hb:A.nx < big) {B:Blk} {n:Nat} (hs:w'.heap.size=w.heap.size+1) (ho:∀ b,b < w.heap.size->w'.heap[b]?=w.heap[b]?)
  (hB:B.Rel (upd β A.nx (w.heap.size,0,n)) w'.heap w.heap.size 0 n) (h1:w'.os=w.os) (h2:w'.tape=w.tape) (h3:w'.output=w.output) :
  Go lo β A w (upd β A.nx (w.heap.size,0,n)) ⟨A.H.put A.nx (some B),A.nx+1⟩ w' where
 rel:={
  lo_le:=Nat.le_succ_of_le h.lo_le
  blk:=fun id B' hB'=>by
   by_cases hi:id=A.nx
   ·subst hi
    simp only [T.dJ _ hb,aA] at hB'
    subst hB'
    exact ⟨_,_,_,upd_same _ _ _,by omega,hB⟩
   ·simp only [T.aT _ hi] at hB'
    obtain ⟨b,o,m,h4,h5,h6⟩:=h.blk id B' hB'
    exact ⟨b,o,m,by rw [aJ _ _ hi]; exact h4,by omega,h6.mono (kS h _) (ho b h5)⟩
  nx:=fun id hi=>by
   rw [aJ _ _ (by simp at hi; omega)]
   exact h.nx id (by simp at hi; omega)
  here:=fun id b o m hb'=>by
   by_cases hi:id=A.nx
   ·subst hi
    rw [upd_same] at hb'
    simp only [aA,aB] at hb'
    omega
   ·rw [aJ _ _ hi] at hb'
    have:=h.here _ _ _ _ hb'
    omega
  sep:=fun id id' B1 B2 b o o' m m' hne h4 h5 h6 h7=>by
   by_cases hi:id=A.nx
   ·subst hi
    rw [aJ _ _ (Ne.symm hne)] at h7
    have:=h.here _ _ _ _ h7
    rw [upd_same] at h6
    simp only [aA,aB] at h6
    omega
   ·by_cases hi':id'=A.nx
    ·subst hi'
     rw [aJ _ _ hi] at h6
     have:=h.here _ _ _ _ h6
     rw [upd_same] at h7
     simp only [aA,aB] at h7
     omega
    ·simp only [T.aT _ hi] at h4
     simp only [T.aT _ hi'] at h5
     rw [aJ _ _ hi] at h6
     rw [aJ _ _ hi'] at h7
     exact h.sep id id' B1 B2 b o o' m m' hne h4 h5 h6 h7
  side:=fun id id' B2 b o o' m m' hl hl' h5 h6 h7=>by
   have hi:id ≠ A.nx:=by have:=h.lo_le; omega
   rw [aJ _ _ hi] at h6
   by_cases hi':id'=A.nx
   ·subst hi'
    have:=h.here _ _ _ _ h6
    rw [upd_same] at h7
    simp only [aA,aB] at h7
    omega
   ·simp only [T.aT _ hi'] at h5
    rw [aJ _ _ hi'] at h7
    exact h.side id id' B2 b o o' m m' hl hl' h5 h6 h7 }
 ext:=kS h _
 nx:=Nat.le_succ _
 size:=by omega
 old:=fun b hb' _=>ho b hb'
 back:=fun id B' hi hB'=>by
  simp only [T.aT _ (Nat.ne_of_lt hi)] at hB'
  exact ⟨B',hB'⟩
 keep:=fun id hi=>T.aT _ (by have:=h.lo_le; omega)
 fresh:=fun id b o m hi hb'=>by
  by_cases hi':id=A.nx
  ·subst hi'
   rw [upd_same] at hb'
   simp only [aA,aB] at hb'
   exact .inl (by omega)
  ·rw [aJ _ _ hi',h.nx id hi] at hb'; cases hb'
 old':=fun id p hi hb'=>by rwa [aJ _ _ (Nat.ne_of_lt hi)] at hb'
 os:=h1
 tape:=h2
 output:=h3
def Blk.zIr (c:Nat):Blk->Bool
 | .cells _ c' _ _=>Nat.beq c' c
 | _=>false
def mO (lo:Nat) (H:T Blk) (cls:Nat) (shr:Bool):T Blk :=
 match shr with
 | true=>H.strike (fun i B=>Nat.blt i lo || !B.zIr cls) 0 1
 | false=>H
theorem jG {lo:Nat} {H:T Blk} {cls:Nat} {shr:Bool} {id:Nat} {B:Blk} (h:(mO lo H cls shr).get id=some B):H.get id=some B∧(shr=true->id < lo∨B.zIr cls=false):=by
 unfold mO at h
 cases shr with
 | false=>exact ⟨h,fun h=>by cases h⟩
 | true =>
  simp only [T.yL,Nat.zero_add,Nat.one_mul] at h
  split at h
  ·rename_i x hx
   split at h
   ·rename_i hc
    simp only [aA] at h
    subst h
    refine ⟨hx,fun _=>?_⟩
    rw [Bool.or_eq_true,Nat.blt_eq] at hc
    rcases hc with hc | hc
    ·exact .inl hc
    ·right; simpa using hc
   ·cases h
  ·cases h
theorem Rv {lo:Nat} {H:T Blk} {cls:Nat} {shr:Bool} {id:Nat} (h:id < lo):(mO lo H cls shr).get id=H.get id:=by
 unfold mO
 cases shr with
 | false=>rfl
 | true =>
  simp only [T.yL,Nat.zero_add,Nat.one_mul]
  cases hx:H.get id with
  | none=>rfl
  | some x =>
   have:Nat.blt id lo=true:=by rw [Nat.blt_eq]; exact h
   simp [this]
theorem wB (h:aX lo β A w) {id:Nat} {cs:List AV} {cls:Nat} {shr:Bool} (hB:A.H.get id=some (.cells cs cls true shr)) (hl:lo <= id) {b o n:Nat} (hb:β id=some (b,o,n))
  {id':Nat} {B':Blk} (hne:id' ≠ id) (hB':(mO lo A.H cls shr).get id'=some B') {b' o' n':Nat} (hb':β id'=some (b',o',n')):b' ≠ b:=by
 rintro rfl
 obtain ⟨h1,h2⟩:=jG hB'
 have hm:=h.sep id id' _ _ _ _ _ _ _ (Ne.symm hne) hB h1 hb hb'
 cases B' with
 | cells cs' c' t' s' =>
  obtain ⟨e,e1,_,e2⟩:=hm
  subst e
  rcases h2 (e1 rfl) with h3 | h3
  ·exact h.side id' id _ _ _ _ _ _ h3 hl hB hb' hb
  ·simp [Blk.zIr] at h3
 | _=>exact hm.elim
theorem Go.turn (h:aX lo β A w) {id:Nat} {cs cs':List AV} {cls:Nat} {shr:Bool} (hB:A.H.get id=some (.cells cs cls true shr)) (hl:lo <= id) (hbig:id < big) {b o n:Nat} (hb:β id=some (b,o,n))
  (hs:w'.heap.size=w.heap.size) (ho:∀ k,k ≠ b->w'.heap[k]?=w.heap[k]?) (hB':(Blk.cells cs' cls true false).Rel β w'.heap b o n)
  (h1:w'.os=w.os) (h2:w'.tape=w.tape) (h3:w'.output=w.output) :
  Go lo β A w β ⟨(mO lo A.H cls shr).put id (some (.cells cs' cls true false)),A.nx⟩ w':=by
 have key:∀ i B2,i ≠ id->((mO lo A.H cls shr).put id (some (.cells cs' cls true false))).get i=some B2->(mO lo A.H cls shr).get i=some B2:=fun i B2 hi h4=>by rwa [T.aT _ hi] at h4
 refine { rel:=?_,ext:=.refl β,nx:=aI _,size:=by omega,old:=?_,back:=?_,keep:=?_,fresh:=fun i b o n hi hb=>(by rw [h.nx i hi] at hb; cases hb),old':=fun _ _ _ hb=>hb,os:=h1,tape:=h2,output:=h3 }
 ·refine { lo_le:=h.lo_le,blk:=?_,nx:=h.nx,here:=by rw [hs]; exact h.here,sep:=?_,side:=?_ }
  ·intro i B2 h4
   by_cases hi:i=id
   ·subst hi
    simp only [T.dJ _ hbig,aA] at h4
    subst h4
    exact ⟨b,o,n,hb,by rw [hs]; exact h.here _ _ _ _ hb,hB'⟩
   ·have h5:=key i B2 hi h4
    obtain ⟨b2,o2,n2,h6,h7,h8⟩:=h.blk i B2 (jG h5).1
    exact ⟨b2,o2,n2,h6,by rw [hs]; exact h7,h8.mono (.refl β) (ho b2 (wB h hB hl hb hi h5 h6))⟩
  ·intro i j B1 B2 b1 o1 o2 n1 n2 hne h4 h5 h6 h7
   by_cases hi:i=id
   ·subst hi
    rw [hb] at h6
    simp only [aA,aB] at h6
    obtain ⟨rfl,_⟩:=h6
    exact absurd rfl (wB h hB hl hb (Ne.symm hne) (key j B2 (Ne.symm hne) h5) h7)
   ·by_cases hj:j=id
    ·subst hj
     rw [hb] at h7
     simp only [aA,aB] at h7
     obtain ⟨rfl,_⟩:=h7
     exact absurd rfl (wB h hB hl hb hi (key i B1 hi h4) h6)
    ·exact h.sep i j B1 B2 b1 o1 o2 n1 n2 hne (jG (key i B1 hi h4)).1 (jG (key j B2 hj h5)).1 h6 h7
  ·intro i j B2 b1 o1 o2 n1 n2 hi hj h5 h6 h7
   by_cases hjd:j=id
   ·subst hjd
    exact h.side i j _ b1 o1 o2 n1 n2 hi hj hB h6 h7
   ·exact h.side i j _ b1 o1 o2 n1 n2 hi hj (jG (key j B2 hjd h5)).1 h6 h7
 ·intro k hk hn
  exact ho k fun e=>hn (e ▸ ⟨id,_,o,n,hl,hB,hb⟩)
 ·intro i B2 hi h4
  by_cases hid:i=id
  ·subst hid; exact ⟨_,hB⟩
  ·exact ⟨_,(jG (key i B2 hid h4)).1⟩
 ·intro i hi
  show ((mO lo A.H cls shr).put id _).get i=_
  rw [T.aT _ (by omega),Rv hi]
theorem Go.obj (h:aX lo β A w) {id:Nat} {B B':Blk} (hB:A.H.get id=some B) (hm:∀ B2,¬ mX B B2) (hl:lo <= id) (hbig:id < big) {b o n:Nat} (hb:β id=some (b,o,n))
  (hs:w'.heap.size=w.heap.size) (ho:∀ k,k ≠ b->w'.heap[k]?=w.heap[k]?) (hB':B'.Rel β w'.heap b o n)
  (h1:w'.os=w.os) (h2:w'.tape=w.tape) (h3:w'.output=w.output) :
  Go lo β A w β ⟨A.H.put id (some B'),A.nx⟩ w':=by
 have key:∀ i B2,i ≠ id->(A.H.put id (some B')).get i=some B2->A.H.get i=some B2:=fun i B2 hi h4=>by rwa [T.aT _ hi] at h4
 have apart:∀ i B2 b' o' n',i ≠ id->A.H.get i=some B2->β i=some (b',o',n')->b' ≠ b:=fun i B2 b' o' n' hi h4 h5=>by
  rintro rfl
  exact hm B2 (h.sep id i B B2 _ _ _ _ _ (Ne.symm hi) hB h4 hb h5)
 refine { rel:=?_,ext:=.refl β,nx:=aI _,size:=by omega,old:=?_,back:=?_,keep:=?_,fresh:=fun i b o n hi hb=>(by rw [h.nx i hi] at hb; cases hb),old':=fun _ _ _ hb=>hb,os:=h1,tape:=h2,output:=h3 }
 ·refine { lo_le:=h.lo_le,blk:=?_,nx:=h.nx,here:=by rw [hs]; exact h.here,sep:=?_,side:=?_ }
  ·intro i B2 h4
   by_cases hi:i=id
   ·subst hi
    simp only [T.dJ _ hbig,aA] at h4
    subst h4
    exact ⟨b,o,n,hb,by rw [hs]; exact h.here _ _ _ _ hb,hB'⟩
   ·have h5:=key i B2 hi h4
    obtain ⟨b2,o2,n2,h6,h7,h8⟩:=h.blk i B2 h5
    exact ⟨b2,o2,n2,h6,by rw [hs]; exact h7,h8.mono (.refl β) (ho b2 (apart i B2 _ _ _ hi h5 h6))⟩
  ·intro i j B1 B2 b1 o1 o2 n1 n2 hne h4 h5 h6 h7
   by_cases hi:i=id
   ·subst hi
    rw [hb] at h6
    simp only [aA,aB] at h6
    obtain ⟨rfl,_⟩:=h6
    exact absurd rfl (apart j B2 _ _ _ (Ne.symm hne) (key j B2 (Ne.symm hne) h5) h7)
   ·by_cases hj:j=id
    ·subst hj
     rw [hb] at h7
     simp only [aA,aB] at h7
     obtain ⟨rfl,_⟩:=h7
     exact absurd rfl (apart i B1 _ _ _ hi (key i B1 hi h4) h6)
    ·exact h.sep i j B1 B2 b1 o1 o2 n1 n2 hne (key i B1 hi h4) (key j B2 hj h5) h6 h7
  ·intro i j B2 b1 o1 o2 n1 n2 hi hj h5 h6 h7
   by_cases hjd:j=id
   ·subst hjd
    exact h.side i j _ b1 o1 o2 n1 n2 hi hj hB h6 h7
   ·exact h.side i j _ b1 o1 o2 n1 n2 hi hj (key j B2 hjd h5) h6 h7
 ·intro k hk hn
  exact ho k fun e=>hn (e ▸ ⟨id,_,o,n,hl,hB,hb⟩)
 ·intro i B2 hi h4
  by_cases hid:i=id
  ·subst hid; exact ⟨_,hB⟩
  ·exact ⟨_,key i B2 hid h4⟩
 ·intro i hi
  show (A.H.put id _).get i=_
  rw [T.aT _ (by omega)]
theorem Go.grow (h:aX lo β A w) (hbig:A.nx < big) {id:Nat} {cs new:List AV} {cls:Nat} {shr:Bool} (hB:A.H.get id=some (.cells cs cls true shr)) (hl:lo <= id) {b o n:Nat} (hb:β id=some (b,o,n))
  {b' o' n':Nat} (hp:(b'=b∧w'.heap.size=w.heap.size∧∀ k,k ≠ b->w'.heap[k]?=w.heap[k]?)∨(b'=w.heap.size∧w'.heap.size=w.heap.size+1∧∀ k,k < w.heap.size->w'.heap[k]?=w.heap[k]?))
  (hold:(Blk.cells cs cls false true).Rel β w'.heap b o n) (hnew:(Blk.cells new cls true true).Rel (upd β A.nx (b',o',n')) w'.heap b' o' n')
  (h1:w'.os=w.os) (h2:w'.tape=w.tape) (h3:w'.output=w.output) :
  Go lo β A w (upd β A.nx (b',o',n')) ⟨((mO lo A.H cls shr).put id (some (.cells cs cls false true))).put A.nx (some (.cells new cls true true)),A.nx+1⟩ w':=by
 have hid:=h.lt hB
 have hsz:w.heap.size <= w'.heap.size:=by rcases hp with ⟨_,h,_⟩ | ⟨_,h,_⟩ <;> omega
 have zFl:∀ k,k < w.heap.size->k ≠ b->w'.heap[k]?=w.heap[k]?:=fun k hk hne=>by
  rcases hp with ⟨_,_,h⟩ | ⟨_,_,h⟩
  ·exact h k hne
  ·exact h k hk
 have hlt:=h.here _ _ _ _ hb
 have zXk:b' < w'.heap.size:=by rcases hp with ⟨e,h,_⟩ | ⟨e,h,_⟩ <;> omega
 have Ov:∀ i B2,(((mO lo A.H cls shr).put id (some (.cells cs cls false true))).put A.nx (some (.cells new cls true true))).get i=some B2 ->
   (i=A.nx∧B2=.cells new cls true true)∨(i=id∧B2=.cells cs cls false true)∨(i ≠ A.nx∧i ≠ id∧(mO lo A.H cls shr).get i=some B2):=fun i B2 h4=>by
  by_cases hi:i=A.nx
  ·subst hi
   simp only [T.dJ _ hbig,aA] at h4
   exact .inl ⟨rfl,h4.symm⟩
  ·rw [T.aT _ hi] at h4
   by_cases hi2:i=id
   ·subst hi2
    rw [T.dJ _ (by omega)] at h4
    simp only [aA] at h4
    exact .inr (.inl ⟨rfl,h4.symm⟩)
   ·rw [T.aT _ hi2] at h4
    exact .inr (.inr ⟨hi,hi2,h4⟩)
 have hne0:id ≠ A.nx:=by omega
 have far:∀ i B2 b2 o2 n2,i ≠ A.nx->i ≠ id->(mO lo A.H cls shr).get i=some B2->β i=some (b2,o2,n2)->b2 ≠ b∧b2 ≠ b':=fun i B2 b2 o2 n2 _ hi2 h5 h6=>by
  have e1:=wB h hB hl hb hi2 h5 h6
  have:=h.here _ _ _ _ h6
  exact ⟨e1,by rcases hp with ⟨e,_⟩ | ⟨e,_⟩ <;> omega⟩
 refine { rel:=?_,ext:=kS h _,nx:=Nat.le_succ _,size:=hsz,old:=?_,back:=?_,keep:=?_,fresh:=?_,old':=fun i p hi hb'=>by rwa [aJ _ _ (Nat.ne_of_lt hi)] at hb',os:=h1,tape:=h2,output:=h3 }
 ·refine { lo_le:=Nat.le_succ_of_le h.lo_le,blk:=?_,nx:=?_,here:=?_,sep:=?_,side:=?_ }
  ·intro i B2 h4
   rcases Ov i B2 h4 with ⟨rfl,rfl⟩ | ⟨rfl,rfl⟩ | ⟨hi,hi2,h5⟩
   ·exact ⟨b',o',n',upd_same _ _ _,zXk,hnew⟩
   ·exact ⟨b,o,n,by rw [aJ _ _ hne0]; exact hb,by omega,hold.mono (kS h _) rfl⟩
   ·obtain ⟨b2,o2,n2,h6,h7,h8⟩:=h.blk i B2 (jG h5).1
    exact ⟨b2,o2,n2,by rw [aJ _ _ hi]; exact h6,by omega,h8.mono (kS h _) (zFl b2 h7 (far i B2 _ _ _ hi hi2 h5 h6).1)⟩
  ·intro i hi
   rw [aJ _ _ (by simp at hi; omega)]
   exact h.nx i (by simp at hi; omega)
  ·intro i b2 o2 n2 h4
   by_cases hi:i=A.nx
   ·subst hi
    rw [upd_same] at h4
    simp only [aA,aB] at h4
    omega
   ·rw [aJ _ _ hi] at h4
    have:=h.here _ _ _ _ h4
    omega
  ·intro i j B1 B2 b1 o1 o2 n1 n2 hne h4 h5 h6 h7
   rcases Ov i B1 h4 with ⟨rfl,rfl⟩ | ⟨rfl,rfl⟩ | ⟨hi,hi2,h4'⟩
   ·rw [upd_same] at h6
    simp only [aA,aB] at h6
    obtain ⟨rfl,rfl,rfl⟩:=h6
    rw [aJ _ _ (Ne.symm hne)] at h7
    rcases Ov j B2 h5 with ⟨rfl,rfl⟩ | ⟨rfl,rfl⟩ | ⟨hj,hj2,h5'⟩
    ·exact absurd rfl hne
    ·simp [mX]
    ·exact absurd rfl (far j B2 _ _ _ hj hj2 h5' h7).2
   ·rw [aJ _ _ hne0,hb] at h6
    simp only [aA,aB] at h6
    obtain ⟨rfl,rfl,rfl⟩:=h6
    rcases Ov j B2 h5 with ⟨rfl,rfl⟩ | ⟨rfl,rfl⟩ | ⟨hj,hj2,h5'⟩
    ·simp [mX]
    ·exact absurd rfl hne
    ·rw [aJ _ _ hj] at h7
     exact absurd rfl (far j B2 _ _ _ hj hj2 h5' h7).1
   ·rw [aJ _ _ hi] at h6
    rcases Ov j B2 h5 with ⟨rfl,rfl⟩ | ⟨rfl,rfl⟩ | ⟨hj,hj2,h5'⟩
    ·rw [upd_same] at h7
     simp only [aA,aB] at h7
     obtain ⟨rfl,rfl,rfl⟩:=h7
     exact absurd rfl (far i B1 _ _ _ hi hi2 h4' h6).2
    ·rw [aJ _ _ hne0,hb] at h7
     simp only [aA,aB] at h7
     obtain ⟨rfl,rfl,rfl⟩:=h7
     exact absurd rfl (far i B1 _ _ _ hi hi2 h4' h6).1
    ·rw [aJ _ _ hj] at h7
     exact h.sep i j B1 B2 b1 o1 o2 n1 n2 hne (jG h4').1 (jG h5').1 h6 h7
  ·intro i j B2 b1 o1 o2 n1 n2 hi hj h5 h6 h7
   have hi1:i ≠ A.nx:=by have:=h.lo_le; omega
   rw [aJ _ _ hi1] at h6
   have yAe:=h.here _ _ _ _ h6
   rcases Ov j B2 h5 with ⟨rfl,rfl⟩ | ⟨rfl,rfl⟩ | ⟨hj1,hj2,h5'⟩
   ·rw [upd_same] at h7
    simp only [aA,aB] at h7
    obtain ⟨rfl,_⟩:=h7
    rcases hp with ⟨e,_⟩ | ⟨e,_⟩
    ·subst e; exact h.side i id _ _ _ _ _ _ hi hl hB h6 hb
    ·omega
   ·rw [aJ _ _ hne0] at h7
    exact h.side i j _ _ _ _ _ _ hi hj hB h6 h7
   ·rw [aJ _ _ hj1] at h7
    exact h.side i j _ _ _ _ _ _ hi hj (jG h5').1 h6 h7
 ·intro k hk hn
  exact zFl k hk fun e=>hn (e ▸ ⟨id,_,o,n,hl,hB,hb⟩)
 ·intro i B2 hi h4
  rcases Ov i B2 h4 with ⟨rfl,rfl⟩ | ⟨rfl,rfl⟩ | ⟨_,_,h5⟩
  ·omega
  ·exact ⟨_,hB⟩
  ·exact ⟨_,(jG h5).1⟩
 ·intro i hi
  have h1:=h.lo_le
  show (((mO lo A.H cls shr).put id _).put A.nx _).get i=_
  rw [T.aT _ (by omega),T.aT _ (by omega),Rv hi]
 ·intro i b2 o2 n2 hi h4
  by_cases hi':i=A.nx
  ·subst hi'
   rw [upd_same] at h4
   simp only [aA,aB] at h4
   obtain ⟨rfl,_⟩:=h4
   rcases hp with ⟨e,_⟩ | ⟨e,_⟩
   ·exact .inr (e ▸ ⟨id,_,o,n,hl,hB,hb⟩)
   ·exact .inl (by omega)
  ·rw [aJ _ _ hi',h.nx i hi] at h4; cases h4
end
end Go.Ce
namespace Go.Ce
inductive CK where
 | bool | int (k:IntKind) | float (k:FloatKind) | complex (k:FloatKind) | str | slice (e:TypeId) | arr (n:Nat) (e:TypeId) | struct (fs:List (Nat × TypeId)) | ptr (e:TypeId) | func | iface | map (k e:TypeId) | other
def CK.of:TypeDesc->CK
 | .bool=>.bool
 | .int k=>.int k
 | .float k=>.float k
 | .complex k=>.complex k
 | .string=>.str
 | .slice e=>.slice e
 | .array n e=>.arr n e
 | .struct fs=>.struct (fs.toList.map fun f=>(f.offset,f.type))
 | .pointer e=>.ptr e
 | .func .. => .func
 | .interface _=>.iface
 | .map k e=>.map k e
 | _=>.other
def CK.isAgg:CK->Bool
 | .arr .. | .struct _=>true
 | _=>false
structure CI where
 k:CK
 size:Nat
 bytes:Nat
 zero:List AV
 eqs:Option Dec.Ty
def zIs:Value->Option AV
 | .bool b=>some (.bo b)
 | .int k n=>some (.it k n)
 | .float k b=>some (.fl k b)
 | .complex k x y=>some (.cx k x y)
 | .string ba=>some (.st (ba.data.toList.map UInt8.toNat))
 | .pointer none=>some .np
 | .slice none 0 0=>some .ns
 | .map none=>some .nm
 | .nilFunc=>some .nf
 | .nilIface=>some .ni
 | _=>none
def Ll:List Value->Option (List AV)
 | []=>some []
 | v :: r=>match zIs v,Ll r with
  | some a,some l=>some (a :: l)
  | _,_=>none
def lJ:Value->Bool
 | .agg _=>true
 | _=>false
def zPp (P:Program) (t:TypeId) (k:CK):Option Dec.Ty :=
 cnd (k.isAgg && (!P.eqGuardType P.depth t && Dec.xX P 12 t)) (match Dec.dI P 12 t with | some ty=>cnd ty.cmp (some ty) none | none=>none) none
def zPq (P:Program) (t:TypeId):Option CI :=
 match P.info? t,P.underlying t with
 | some i,some d =>
  match i.zero with
  | some z =>
   match Ll z.cells.toList with
   | some ls=>cnd ((CK.of d).isAgg == lJ z && z.cells.size == i.size) (some { k:=CK.of d,size:=i.size,bytes:=i.bytes,zero:=ls,eqs:=zPp P t (CK.of d) }) none
   | none=>none
  | none=>none
 | _,_=>none
def fN {α:Type} (n:Nat) (f:Nat->α):α:=@Nat.rec (fun _=>α) (f 0) (fun m _=>f (m+1)) n
theorem eD {α:Type} (n:Nat) (f:Nat->α):fN n f=f n:=by cases n <;> rfl
def fI {α:Type} (n:Int) (f:Int->α):α:=match n with
 | .ofNat m=>fN m fun m=>f (.ofNat m)
 | .negSucc m=>fN m fun m=>f (.negSucc m)
theorem zXl {α:Type} (n:Int) (f:Int->α):fI n f=f n:=by cases n <;> simp [fI,eD]
def fL {α:Type}:List Nat->(List Nat->α)->α
 | [],f=>f []
 | a :: r,f=>fN a fun a=>fL r fun r=>f (a :: r)
theorem Zh {α:Type}:∀ (l:List Nat) (f:List Nat->α),fL l f=f l
 | [],_=>rfl
 | a :: r,f=>by simp [fL,eD,Zh r]
def fB {α:Type} (b:Bool) (f:Bool->α):α:=match b with | true=>f true | false=>f false
theorem zIt {α:Type} (b:Bool) (f:Bool->α):fB b f=f b:=by cases b <;> rfl
def ob {α β:Type} (o:Option α) (k:α->Option β):Option β:=match o with | some x=>k x | none=>none
theorem aC {α β:Type} {o:Option α} {k:α->Option β} {r:β} (h:ob o k=some r):∃ x,o=some x∧k x=some r:=by
 cases o
 ·cases h
 ·exact ⟨_,rfl,h⟩
def ck {α:Type} (b:Bool) (x:Option α):Option α:=match b with | true=>x | false=>none
theorem aM {α:Type} {b:Bool} {x:Option α} {r:α} (h:ck b x=some r):b=true∧x=some r:=by
 cases b
 ·cases h
 ·exact ⟨rfl,h⟩
def drp {α:Type}:Nat->List α->List α
 | 0,l=>l
 | _+1,[]=>[]
 | n+1,_ :: r=>drp n r
def tk:Nat->List AV->Option (List AV)
 | 0,_=>some []
 | _+1,[]=>none
 | n+1,a :: r=>match tk n r with | some l=>some (a :: l) | none=>none
def nth:List AV->Nat->Option AV
 | [],_=>none
 | a :: _,0=>some a
 | _ :: r,n+1=>nth r n
def over:List AV->List AV->Option (List AV)
 | [],cs=>some cs
 | n :: r,_ :: cs=>match over r cs with | some l=>some (n :: l) | none=>none
 | _ :: _,[]=>none
def splice:Nat->List AV->List AV->Option (List AV)
 | 0,cs,new=>over new cs
 | k+1,c :: cs,new=>match splice k cs new with | some l=>some (c :: l) | none=>none
 | _+1,[],_=>none
def AV.one:AV->Bool
 | .ag _ | .tu _=>false
 | _=>true
def jH:List AV->Bool
 | []=>true
 | a :: r=>a.one && jH r
def AV.cells:AV->List AV
 | .ag l=>l
 | v=>[v]
def len {α:Type}:List α->Nat
 | []=>0
 | _ :: r=>len r+1
def rT (A:W) (B:Blk):Option W:=ck (Nat.blt A.nx big) (fN (A.nx+1) fun n=>some ⟨A.H.put A.nx (some B),n⟩)
def zYu (A:W) (e:TypeId):Nat:=A.nx+big * (e+1)
def zBl (c:Nat) (e:TypeId):Bool:=match dI c with | none=>true | some t=>Nat.beq e t
def yN (A:W) (e:TypeId) (cs:List AV):Option W:=fN (zYu A e) fun k=>rT A (.cells cs k true false)
def sO (A:W) (cs:List AV):Option W:=rT A (.cells cs A.nx true false)
def aWr (lo:Nat) (A:W) (id off:Nat) (new:List AV):Option W :=
 match A.H.get id with
 | some (.cells cs cls true shr)=>ck (Nat.ble lo id && Nat.blt id big) (ob (splice off cs new) fun cs'=>some ⟨(mO lo A.H cls shr).put id (some (.cells cs' cls true false)),A.nx⟩)
 | some (.typed t cs)=>ck (Nat.ble lo id && Nat.blt id big) (ob (splice off cs new) fun cs'=>some ⟨A.H.put id (some (.typed t cs')),A.nx⟩)
 | _=>none
def aRd (A:W) (id off n:Nat):Option (List AV) :=
 match A.H.get id with
 | some (.cells cs _ _ _)=>tk n (drp off cs)
 | some (.typed _ cs)=>tk n (drp off cs)
 | some (.ro cs)=>tk n (drp off cs)
 | _=>none
def zPr:AV->Bool
 | .mp _ | .nm=>true
 | _=>false
def zIu:CK->List AV->Bool
 | .struct _,[.np,.ns]=>true
 | _,_=>false
section ops
variable (P:Program) (lo:Nat) (I:T CI) (ev:Operand->Option AV) (A:W)
def Rw (t:TypeId) (v:AV):Option AV :=
 match v with
 | .pt id off=>ob (I.get t) fun ci=>ob (aRd A id off (cnd ci.k.isAgg ci.size 1)) fun l=>match ci.k.isAgg,l with
  | true,l=>some (.ag l)
  | false,[x]=>ck x.one (some x)
  | false,_=>none
 | _=>none
def zBm (t:TypeId) (v x:AV):Option W :=
 match v with
 | .pt id off=>ob (I.get t) fun ci=>ck (Nat.beq (len x.cells) ci.size && jH x.cells) (aWr lo A id off x.cells)
 | _=>none
def uI {α:Type} (P:Program):Sem α->Option α
 | .pure a=>some a
 | .program k=>uI P (k P)
 | .mark _ k=>uI P k
 | _=>none
theorem uJ {α:Type} {P:Program}:∀ {s:Sem α} {a:α},uI P s=some a->∀ w,s.run P w=.ok a w
 | .pure a,b,h,w=>by simp only [uI,aA] at h; subst h; rfl
 | .program k,b,h,w=>by simp only [uI] at h; exact uJ (s:=k P) h w
 | .mark _ k,b,h,w=>by simp only [uI] at h; exact uJ (s:=k) h w
def Ux:AV->Option Value
 | .bo b=>some (.bool b)
 | .it k n=>some (.int k n)
 | .fl k x=>some (.float k x)
 | .cx k x y=>some (.complex k x y)
 | _=>none
def Jr:Value->Option AV
 | .bool b=>fB b fun b=>some (.bo b)
 | .int k n=>fI n fun n=>some (.it k n)
 | .float k x=>fN x fun x=>some (.fl k x)
 | .complex k x y=>fN x fun x=>fN y fun y=>some (.cx k x y)
 | _=>none
def vE:List Nat->List Nat->Bool
 | [],[]=>true
 | a :: r,b :: s=>cnd (Nat.beq a b) (vE r s) false
 | _,_=>false
def ltL:List Nat->List Nat->Bool
 | _,[]=>false
 | [],_ :: _=>true
 | a :: x,b :: y=>cnd (Nat.blt a b) true (cnd (Nat.beq a b) (ltL x y) false)
def zIv (op:BinOp) (x y:List Nat):Option AV :=
 match op with
 | .add=>ck (Nat.ble (len x+len y) 1000000) (fL (x++y) fun l=>some (.st l))
 | .eql=>fB (vE x y) fun b=>some (.bo b)
 | .neq=>fB (!vE x y) fun b=>some (.bo b)
 | .lss=>fB (ltL x y) fun b=>some (.bo b)
 | .leq=>fB (ltL x y || vE x y) fun b=>some (.bo b)
 | .gtr=>fB (!(ltL x y || vE x y)) fun b=>some (.bo b)
 | .geq=>fB (!ltL x y) fun b=>some (.bo b)
 | _=>none
def isNil (k:CK) (v:AV):Option Bool :=
 match k,v with
 | .ptr _,.np=>some true
 | .ptr _,.pt .. => some false
 | .slice _,.ns=>some true
 | .slice _,.sl .. => some false
 | .slice _,.se _=>some false
 | .map ..,.nm=>some true
 | .map ..,.mp _=>some false
 | .func,.nf=>some true
 | .func,.fn .. => some false
 | .iface,.ni=>some true
 | .iface,.ic .. => some false
 | _,_=>none
def Js (op:BinOp) (b:Bool):Option AV :=
 match op with
 | .eql=>some (.bo b)
 | .neq=>fB (!b) fun b=>some (.bo b)
 | _=>none
def wK:Operand->Bool
 | .const (.pointer none) | .const .nilIface | .const .nilFunc | .const (.slice none 0 0) | .const (.map none)=>true
 | _=>false
def dN {α:Type} (f:List AV->Option (α × List AV)):Nat->List AV->Option (List α × List AV)
 | 0,l=>some ([],l)
 | n+1,l=>match f l with
  | some (x,l)=>match dN f n l with
   | some (xs,l)=>some (x :: xs,l)
   | none=>none
  | none=>none
def dT:(t:Dec.Ty)->List AV->Option (t.den × List AV)
 | .unit,l=>some ((),l)
 | .bool,.bo b :: l=>some (b,l)
 | .int k,.it j n :: l=>ck (decide (j=k)) (some (n,l))
 | .str,.st x :: l=>some (x.map UInt8.ofNat,l)
 | .pair a b,l=>match dT a l with
  | some (x,l)=>match dT b l with
   | some (y,l)=>some ((x,y),l)
   | none=>none
  | none=>none
 | .arr n a,l=>dN (dT a) n l
 | _,_=>none
def zPs (ty:Dec.Ty) (a b:List AV):Option Bool :=
 match dT ty a,dT ty b with
 | some (x,[]),some (y,[])=>some (ty.beq x y)
 | _,_=>none
def zPt (op:BinOp) (t:TypeId) (xo yo:Operand) (x y:AV):Option AV :=
 match x,y with
 | .st a,.st b=>zIv op a b
 | .ag a,.ag b=>ob (I.get t) fun ti=>ob ti.eqs fun ty=>ob (zPs ty a b) (Js op)
 | .md k m r,.it j n=>match op with
  | .rem=>ck (decide (k=.i64) && decide (j=.i64) && decide (n=.ofNat m) && Nat.blt 0 m) (some (.it .i64 (.ofNat r)))
  | _=>none
 | _,_ =>
  match Ux x,Ux y with
  | some u,some v=>ob (uI P (do eqGuard op t xo yo u v; binOp op t u v)) Jr
  | _,_=>ob (I.get t) fun ci=>match isNil ci.k x,isNil ci.k y with
   | some true,some true=>ck (wK xo || wK yo) (Js op true)
   | some false,some true=>Js op false
   | some true,some false=>Js op false
   | _,_=>none
def aUn (op:UnOp) (x:AV):Option AV:=ob (Ux x) fun u=>ob (uI P (Op.unary op u)) Jr
def Dj:List Nat->List AV
 | []=>[]
 | b :: r=>.it .u8 (.ofNat b) :: Dj r
def rE:List AV->Option (List Nat)
 | []=>some []
 | .it .u8 (.ofNat n) :: r=>ck (Nat.blt n 256) (ob (rE r) fun l=>some (n :: l))
 | _=>none
def zIw (src dst:TypeId) (x:AV):Option (AV × W) :=
 match x with
 | .st l=>ob (I.get src) fun si=>ob (I.get dst) fun di=>match si.k,di.k with
  | .str,.str=>some (.st l,A)
  | .str,.slice e=>ob (I.get e) fun ei=>match ei.k with
   | .int .u8=>ob (sO A (Dj l)) fun A'=>fN (len l) fun n=>ck (Nat.ble (len l) 1000000) (some (.sl A.nx 0 n n 1 false,A'))
   | _=>none
  | _,_=>none
 | .ns=>ob (I.get src) fun si=>ob (I.get dst) fun di=>match si.k,di.k with
  | .slice e,.str=>ob (I.get e) fun ei=>match ei.k with
   | .int .u8=>some (.st [],A)
   | _=>none
  | _,_=>none
 | .se _=>ob (I.get src) fun si=>ob (I.get dst) fun di=>match si.k,di.k with
  | .slice e,.str=>ob (I.get e) fun ei=>match ei.k with
   | .int .u8=>some (.st [],A)
   | _=>none
  | _,_=>none
 | .sl id off n _ _ _=>ob (I.get src) fun si=>ob (I.get dst) fun di=>match si.k,di.k with
  | .slice e,.str=>ob (I.get e) fun ei=>match ei.k with
   | .int .u8=>ob (aRd A id off n) fun cs=>ob (rE cs) fun l=>fL l fun l=>some (.st l,A)
   | _=>none
  | _,_=>none
 | .md _ m r=>ob (I.get src) fun _=>ob (I.get dst) fun di=>match di.k with
  | .int .i64=>some (.md .i64 m r,A)
  | _=>none
 | x=>ob (Ux x) fun u=>ob (uI P (convert src dst u)) fun v=>ob (Jr v) fun a=>some (a,A)
def sP:AV->Option Nat
 | .it _ (.ofNat n)=>some n
 | _=>none
def mY (d:Nat):Option AV->Option Nat
 | none=>some d
 | some a=>sP a
def zIx:Option AV->Option AV->Bool
 | _,none=>true
 | some _,some _=>true
 | none,some _=>false
def zY (t:TypeId) (x:AV) (lo' hi mx:Option AV):Option AV :=
 ck (zIx hi mx) (ob (I.get t) fun ti=>ob (mY 0 lo') fun l =>
 match ti.k,x with
 | .str,.st s=>match mx with
  | some _=>none
  | none=>ob (mY (len s) hi) fun h=>ck (Nat.ble l h && Nat.ble h (len s)) (ob (tkN (h - l) (drp l s)) fun r=>some (.st r))
 | .slice e,.ns=>ob (I.get e) fun _=>ob (mY 0 hi) fun h=>ob (mY 0 mx) fun m=>ck (Nat.beq l 0 && Nat.beq h 0 && Nat.beq m 0) (some .ns)
 | .slice e,.se z=>ob (I.get e) fun _=>ob (mY 0 hi) fun h=>ck (Nat.beq l 0 && Nat.beq h 0) (match mx with
  | none=>some (.se z)
  | some mv=>ob (sP mv) fun m=>ck (Nat.beq m 0) (some (.se true)))
 | .slice e,.sl id off n c sz ex=>ob (mY n hi) fun h=>ob (I.get e) fun ei =>
  ck (Nat.beq ei.size sz) (match mx with
  | none=>ck (Nat.ble l h && Nat.ble h (cnd (Nat.ble n c) c n)) (cnd (Nat.beq l 0)
    (fN h fun h=>some (.sl id off h c sz ex))
    (cnd (Nat.blt l c) (fN (off+l * sz) fun o=>fN (h - l) fun h=>fN (c - l) fun c=>some (.sl id o h c sz ex)) (ck (Nat.beq h l) (some (.se ex)))))
  | some mv=>ob (sP mv) fun m=>ck (Nat.ble l h && Nat.ble h m && Nat.ble m (cnd (Nat.ble n c) c n)) (cnd (Nat.beq l 0)
    (fN h fun h=>fN m fun m=>some (.sl id off h m sz true))
    (cnd (Nat.blt l m) (fN (off+l * sz) fun o=>fN (h - l) fun h=>fN (m - l) fun m=>some (.sl id o h m sz true)) (some (.se true)))))
 | .arr n e,.pt id off=>match mx with
  | some _=>none
  | none=>ob (mY n hi) fun h=>ob (I.get e) fun ei=>ob (aRd A id off (n * ei.size)) fun _ =>
   ck (Nat.ble l h && Nat.ble h n && Nat.blt 0 (n * ei.size) && Nat.ble n 1000000) (cnd (Nat.beq l 0)
    (fN h fun h=>some (.sl id off h n ei.size true))
    (ck (Nat.blt l n) (fN (off+l * ei.size) fun o=>fN (h - l) fun h=>fN (n - l) fun c=>some (.sl id o h c ei.size true))))
 | _,_=>none)
where
 tkN:Nat->List Nat->Option (List Nat)
 | 0,_=>some []
 | _+1,[]=>none
 | n+1,a :: r=>match tkN n r with | some l=>some (a :: l) | none=>none
def zBn (t:TypeId) (x:AV) (f:Nat):Option AV :=
 match x with
 | .ag l=>ob (I.get t) fun ti=>match ti.k with
  | .struct fs=>ob fs[f]? fun p=>ob (I.get p.2) fun fi=>match fi.k.isAgg with
   | true=>ob (tk fi.size (drp p.1 l)) fun l=>some (.ag l)
   | false=>nth l p.1
  | _=>none
 | _=>none
def Fa (t:TypeId) (x:AV) (f:Nat):Option AV :=
 match x with
 | .pt id off=>ob (I.get t) fun ti=>match ti.k with
  | .struct fs=>ob fs[f]? fun p=>ob (I.get p.2) fun fi=>ck (!Nat.beq fi.size 0) (fN (off+p.1) fun o=>some (.pt id o))
  | _=>none
 | _=>none
def Fb (t:TypeId) (x i:AV):Option AV :=
 ob (I.get t) fun ti=>ob (sP i) fun i =>
 match ti.k,x with
 | .arr n e,.pt id off=>ob (I.get e) fun ei=>ck (Nat.blt i n) (fN (off+i * ei.size) fun o=>some (.pt id o))
 | .slice e,.sl id off n _ _ _=>ob (I.get e) fun ei=>ck (Nat.blt i n) (fN (off+i * ei.size) fun o=>some (.pt id o))
 | _,_=>none
def zBo (t:TypeId) (x i:AV):Option AV :=
 ob (I.get t) fun ti=>ob (sP i) fun i =>
 match ti.k,x with
 | .str,.st s=>match drp i s with
  | b :: _=>some (.it .u8 (.ofNat b))
  | []=>none
 | .arr n e,.ag l=>ob (I.get e) fun ei=>ck (Nat.blt i n) (match ei.k.isAgg with
   | true=>ob (tk ei.size (drp (i * ei.size) l)) fun l=>some (.ag l)
   | false=>nth l (i * ei.size))
 | _,_=>none
def avs:List Operand->Option (List AV)
 | []=>some []
 | x :: r=>match ev x,avs r with
  | some a,some l=>some (a :: l)
  | _,_=>none
def Fe (place:Nat->Option (Nat × Nat)):List (Nat × Operand)->List AV->Option (List AV)
 | [],cs=>some cs
 | (i,x) :: r,cs=>match place i,ev x with
  | some (off,size),some a=>ck (Nat.beq (len a.cells) size && jH a.cells) (match splice off cs a.cells with | some cs=>Fe place r cs | none=>none)
  | _,_=>none
def rep:Nat->List AV->List AV
 | 0,_=>[]
 | n+1,z=>z++rep n z
def Fg:List (Nat × TypeId)->Bool
 | []=>true
 | p :: r=>(match I.get p.2 with | some _=>true | none=>false) && Fg r
def zBp (t:TypeId) (parts:List (Nat × Operand)):Option AV :=
 ob (I.get t) fun ti=>match ti.k with
 | .struct fs=>ck (Fg I fs) <| ob (Fe ev (fun i=>match fs[i]? with | some p=>(match I.get p.2 with | some fi=>some (p.1,fi.size) | none=>none) | none=>none) parts ti.zero) fun l=>some (.ag l)
 | .arr _ e=>ob (I.get e) fun ei=>ob (Fe ev (fun i=>some (i * ei.size,ei.size)) parts ti.zero) fun l=>some (.ag l)
 | _=>none
def Ca (t:TypeId) (n:Nat) (parts:List (Nat × Operand)):Option (AV × W) :=
 ob (I.get t) fun ti=>match ti.k with
 | .slice e=>ob (I.get e) fun ei=>ck (Nat.ble (n * ei.size) 16777216 && Nat.blt 0 ei.size) (ob (Fe ev (fun i=>some (i * ei.size,ei.size)) parts (rep n ei.zero)) fun cs =>
   ob (sO A cs) fun A'=>some (.sl A.nx 0 n n ei.size true,A'))
 | _=>none
def Fh (t:TypeId) (l c:AV):Option (AV × W) :=
 ob (I.get t) fun ti=>ob (sP l) fun l=>ob (sP c) fun c=>match ti.k with
 | .slice e=>ob (I.get e) fun ei=>ck (Nat.ble l c && Nat.ble (c * ei.size) 1000000 && Nat.ble (c * ei.bytes) 1000000000 && Nat.ble c 1000000 && Nat.blt 0 ei.size) (ob (sO A (rep c ei.zero)) fun A'=>some (.sl A.nx 0 l c ei.size true,A'))
 | _=>none
def Zi (size:Nat):AV->Option (Nat × List AV)
 | .ns=>some (0,[])
 | .se _=>some (0,[])
 | .sl id off n _ _ _=>ob (aRd A id off (n * size)) fun l=>ck (jH l) (some (n,l))
 | .st l=>ck (Nat.beq size 1) (some (len l,Dj l))
 | _=>none
def Dk (k:CK) (x:AV):Bool:=match k,x with | .slice _,.ns | .slice _,.se _ | .slice _,.sl .. | .str,.st _=>true | _,_=>false
def Uy (t tx : TypeId) (s x : AV) : Option (AV × W) :=
  ob (I.get t) fun ti => ob (I.get tx) fun xi => match ti.k with
  | .slice e => ob (I.get e) fun ei => ck (Dk xi.k x && Nat.blt 0 ei.size) (ob (Zi A ei.size x) fun p =>
    cnd (Nat.beq p.1 0) (match s with | .ns => some (s, A) | .sl .. => some (s, A) | .se _ => some (s, A) | _ => none)
    (match s with
    | .se true => ck (Nat.ble p.1 1000000 && Nat.ble (p.1 * ei.bytes) 1000000000) (ob (yN A e p.2) fun A' => fN p.1 fun n => some (.sl A.nx 0 n n ei.size false, A'))
    | .ns => ck (Nat.ble p.1 1000000 && Nat.ble (p.1 * ei.bytes) 1000000000) (ob (yN A e p.2) fun A' => fN p.1 fun n => some (.sl A.nx 0 n n ei.size false, A'))
    | .sl id off n c sz ex => ck (Nat.beq sz ei.size) (fN (n + p.1) fun need => cnd (Nat.ble need c)
        (ob (aWr lo A id (off + n * sz) p.2) fun A' => some (.sl id off need c sz ex, A'))
        (ck (Nat.ble need 1000000 && Nat.ble (need * ei.bytes) 1000000000) (ob (aRd A id off (n * sz)) fun olds => ck (jH olds) (match ex with
          | true => ob (yN A e (olds ++ p.2)) fun A' => some (.sl A.nx 0 need need sz false, A')
          | false => match A.H.get id with
            | some (.cells cs cls true shr) => ck (Nat.ble lo id && Nat.blt A.nx big && Nat.beq (len cs) (off + n * sz) && zBl cls e) (fN (A.nx + 1) fun nx =>
                some (.sl A.nx 0 need need sz false, ⟨((mO lo A.H cls shr).put id (some (.cells cs cls false true))).put A.nx (some (.cells (olds ++ p.2) cls true true)), nx⟩))
            | _ => none))))
    | _ => none))
  | _ => none
def zIy (t tx:TypeId) (s x:AV):Option (AV × W) :=
 ob (I.get t) fun ti=>ob (I.get tx) fun xi=>match ti.k with
 | .slice e=>ob (I.get e) fun ei=>ck (Dk xi.k x) (ob (Zi A ei.size x) fun p=>match s with
  | .sl id off n _ sz _=>ck (Nat.beq sz ei.size && Nat.ble p.1 n) (cnd (Nat.beq p.1 0) (some (.it .i64 (.ofNat 0),A)) (ob (aWr lo A id off p.2) fun A'=>fN p.1 fun k=>some (.it .i64 (.ofNat k),A')))
  | _=>none)
 | _=>none
def zPu (t:TypeId) (x:AV):Option AV :=
 ob (I.get t) fun ti=>match ti.k,x with
 | .str,.st s=>fN (len s) fun n=>some (.it .i64 (.ofNat n))
 | .slice _,.ns=>some (.it .i64 (.ofNat 0))
 | .slice _,.sl _ _ n _ _ _=>some (.it .i64 (.ofNat n))
 | .slice _,.se _=>some (.it .i64 (.ofNat 0))
 | .arr n _,_=>some (.it .i64 (.ofNat n))
 | .map ..,.nm=>some (.it .i64 (.ofNat 0))
 | .map ..,.mp id=>match A.H.get id with
  | some (.map es _)=>fN (len es) fun n=>some (.it .i64 (.ofNat n))
  | _=>none
 | _,_=>none
def zPv (t:TypeId) (x:AV):Option AV :=
 ob (I.get t) fun ti=>match ti.k,x with
 | .slice _,.ns=>some (.it .i64 (.ofNat 0))
 | .slice _,.se true=>some (.it .i64 (.ofNat 0))
 | .slice _,.sl _ _ _ c _ true=>some (.it .i64 (.ofNat c))
 | _,_=>none
def Ow (t tx:TypeId) (s x:AV):Option (AV × W) :=
 ob (I.get t) fun ti=>ob (I.get tx) fun xi=>match ti.k,xi.k,s with
 | .slice e,.int _,.ns=>ob (I.get e) fun ei=>ob (sP x) fun n=>ck (Nat.blt 0 ei.size && Nat.blt 0 n && Nat.ble n 1000000 && Nat.ble (n * ei.bytes) 1000000000) (ob (sO A (rep n ei.zero)) fun A'=>some (.sl A.nx 0 n n ei.size false,A'))
 | _,_,_=>none
def Lm (mx:Bool):List AV->Option AV
 | [.it k x,.it _ y]=>some (cnd mx (cnd (decide (y > x)) (.it k y) (.it k x)) (cnd (decide (y < x)) (.it k y) (.it k x)))
 | _=>none
def Ox (b:Builtin) (ts:List TypeId) (xs:List AV):Option (AV × W) :=
 match b,ts,xs with
 | .len,[t],[x]=>ob (zPu I A t x) fun v=>some (v,A)
 | .append,[t,tx],[s,x]=>match x with
  | .it .. => Ow I A t tx s x
  | _=>Uy lo I A t tx s x
 | .cap,[t],[x]=>ob (zPv I t x) fun v=>some (v,A)
 | .copy,[t,tx],[s,x]=>zIy lo I A t tx s x
 | .real,_,[.cx k x _]=>some (.fl k x,A)
 | .imag,_,[.cx k _ y]=>some (.fl k y,A)
 | .complex,_,[.fl k x,.fl j y]=>ck (decide (k=j)) (some (.cx k x y,A))
 | .max,_,xs=>ob (Lm true xs) fun v=>some (v,A)
 | .min,_,xs=>ob (Lm false xs) fun v=>some (v,A)
 | _,_,_=>none
def Lp:AV->AV->Option Bool
 | .it k a,.it k' b=>match decide (k=k') with | true=>some (decide (a=b)) | false=>none
 | .st a,.st b=>some (vE a b)
 | .bo a,.bo b=>some (a == b)
 | _,_=>none
def jQ (k:CK) (v:AV):Bool :=
 match k,v with
 | .int _,.it .. => true
 | .str,.st _=>true
 | .bool,.bo _=>true
 | _,_=>false
def Fj (key:AV):List (AV × AV × Nat)->Nat->Option (Option (Nat × AV))
 | [],_=>some none
 | e :: r,i=>match Lp key e.1 with
  | some true=>some (some (i,e.2.1))
  | some false=>Fj key r (i+1)
  | none=>none
def zBq (v:AV):List (AV × AV × Nat)->Nat->List (AV × AV × Nat)
 | [],_=>[]
 | e :: r,0=>(e.1,v,e.2.2) :: r
 | e :: r,i+1=>e :: zBq v r i
def zG (agg:Bool) (l:List AV):Option AV :=
 match agg,l with
 | true,l=>some (.ag l)
 | false,[x]=>some x
 | false,_=>none
def tC (n:Nat):List Nat->Bool
 | []=>false
 | a :: r=>Nat.beq n a || tC n r
def zIz (m key:AV):Option (Option AV) :=
 match m with
 | .nm=>some none
 | .mp id=>match A.H.get id with
  | some (.map es _)=>ob (Fj key es 0) fun r=>match r with | some (_,v)=>some (some v) | none=>some none
  | some (.dict k es qE)=>match key with
   | .it j (.ofNat n)=>ck (decide (j=k)) (match lkN n es with | some v=>ck (tC n qE) (some (some v)) | none=>some none)
   | _=>none
  | _=>none
 | _=>none
def Uz (t:TypeId) (m key:AV) (ok:Bool):Option AV :=
 ob (I.get t) fun ti=>match ti.k with
 | .map kt et=>ob (I.get kt) fun ki=>ob (I.get et) fun ei=>ck (jQ ki.k key) (
  ob (zIz A m key) fun r=>match r with
   | some v=>some (cnd ok (.tu [v,.bo true]) v)
   | none=>ob (zG ei.k.isAgg ei.zero) fun z=>some (cnd ok (.tu [z,.bo false]) z))
 | _=>none
def isFn:AV->Option FuncId
 | .fn (.func f) [] []=>some f
 | _=>none
def Va (t:TypeId) (m key v:AV):Option W :=
 ob (I.get t) fun ti=>match ti.k,m with
 | .map kt _,.mp id=>ob (I.get kt) fun ki=>ck (jQ ki.k key && Nat.ble lo id && Nat.blt id big) (match A.H.get id with
  | some (.map es clk)=>ob (Fj key es 0) fun r=>match r with
   | some (i,_)=>some ⟨A.H.put id (some (.map (zBq v es i) clk)),A.nx⟩
   | none=>fN (clk+1) fun c=>some ⟨A.H.put id (some (.map (es++[(key,v,clk)]) c)),A.nx⟩
  | some (.dict k es qE)=>match key with
   | .it j (.ofNat n)=>ck (decide (j=k)) (ob (lkN n es) fun u=>ob (isFn u) fun f=>ob (isFn v) fun g=>ck (Nat.beq f g) (some ⟨A.H.put id (some (.dict k es (n :: qE))),A.nx⟩))
   | _=>none
  | _=>none)
 | _,_=>none
def Jt (t:TypeId) (m key:AV):Option (AV × W) :=
 ob (I.get t) fun ti=>match ti.k,m with
 | .map kt et,.mp id=>ob (I.get kt) fun ki=>ob (I.get et) fun ei=>ck (jQ ki.k key && Nat.ble lo id && Nat.blt id big) (match A.H.get id with
  | some (.map es clk)=>ob (Fj key es 0) fun r=>match r with
   | some (i,v)=>ob es[i]? fun e=>some (.tu [v,.it .i64 (.ofNat e.2.2)],A)
   | none=>ob (zG ei.k.isAgg ei.zero) fun z=>fN (clk+1) fun c=>some (.tu [z,.it .i64 (.ofNat clk)],⟨A.H.put id (some (.map (es++[(key,z,clk)]) c)),A.nx⟩)
  | _=>none)
 | _,_=>none
def Rx (n:Nat):List (AV × AV × Nat)->Nat->Option Nat
 | [],_=>none
 | e :: r,i=>cnd (Nat.beq e.2.2 n) (some i) (Rx n r (i+1))
def Cb (m stamp v:AV):Option W :=
 match m with
 | .mp id=>ob (sP stamp) fun n=>ck (Nat.ble lo id && Nat.blt id big) (match A.H.get id with
  | some (.map es clk)=>ob (Rx n es 0) fun i=>some ⟨A.H.put id (some (.map (zBq v es i) clk)),A.nx⟩
  | _=>none)
 | _=>none
def zBr (t:TypeId) (x:AV):Option (AV × W) :=
 ob (I.get t) fun ti=>match ti.k,x with
 | .map ..,.mp id=>match A.H.get id with
  | some (.map _ clk)=>ob (rT A (.mit id clk [] clk)) fun A'=>some (.pt A.nx 0,A')
  | _=>none
 | .str,.st l=>ob (rT A (.sit l 0)) fun A'=>some (.pt A.nx 0,A')
 | _,_=>none
def Ry (seen:List Nat):List (AV × AV × Nat)->List (AV × AV × Nat)
 | []=>[]
 | e :: r=>cnd (tC e.2.2 seen) (Ry seen r) (e :: Ry seen r)
def Lr (st:Nat) (seen:List Nat) (es:List (AV × AV × Nat)):Bool :=
 match seen,es with
 | [],_=>true
 | _,[]=>true
 | _,es=>go es
where
 go:List (AV × AV × Nat)->Bool
 | []=>false
 | e :: r=>Nat.blt e.2.2 st || go r
def zJa (it:AV) (isStr:Bool):Option (AV × W) :=
 match it,isStr with
 | .pt id 0,true=>match A.H.get id with
  | some (.sit l pos)=>ck (Nat.ble lo id && Nat.blt id big) (match drp pos l with
   | []=>some (.tu [.bo false],A)
   | b :: _=>ck (Nat.blt b 128) (fN (pos+1) fun p=>some (.tu [.bo true,.it .i64 (.ofNat pos),.it .i32 (.ofNat b)],⟨A.H.put id (some (.sit l p)),A.nx⟩)))
  | _=>none
 | .pt id 0,false=>match A.H.get id with
  | some (.mit m since seen st)=>match A.H.get m with
   | some (.map es clk)=>ck (Nat.beq clk since && Nat.ble lo id && Nat.blt id big && Lr st seen es) (match Ry seen es with
    | []=>some (.tu [.bo false],A)
    | [e]=>ck (Nat.blt e.2.2 since) (some (.tu [.bo true,e.1,e.2.1],⟨A.H.put id (some (.mit m since (e.2.2 :: seen) clk)),A.nx⟩))
    | _=>none)
   | _=>none
  | _=>none
 | _,_=>none
def Zj:List Nat->Option Nat
 | []=>none
 | a :: _=>some a
def Rz (n:Nat):List (AV × AV × Nat)->Option (AV × AV)
 | []=>none
 | e :: r=>cnd (Nat.beq e.2.2 n) (some (e.1,e.2.1)) (Rz n r)
def zBs (it:AV):Option AV :=
 match it with
 | .pt id 0=>match A.H.get id with
  | some (.mit m _ seen st)=>match A.H.get m with
   | some (.map es clk)=>ck (Nat.beq clk st) (ob (Zj seen) fun n=>ob (Rz n es) fun e=>some (.tu [e.1,e.2]))
   | _=>none
  | _=>none
 | _=>none
def Vb (_ asd:TypeId) (x:AV) (ok:Bool):Option AV :=
 ob (I.get asd) fun ai=>match ai.k,x with
 | .iface,_=>none
 | _,.ic t v=>cnd (Nat.beq t asd) (some (cnd ok (.tu [v,.bo true]) v)) (match ok with
  | true=>ob (zG ai.k.isAgg ai.zero) fun z=>some (.tu [z,.bo false])
  | false=>none)
 | _,.ni=>match ok with
  | true=>ob (zG ai.k.isAgg ai.zero) fun z=>some (.tu [z,.bo false])
  | false=>none
 | _,_=>none
def zBt (k:CK):Bool:=match k with | .iface=>false | _=>true
def zRl:AV->Bool
 | .pt .. | .fn (.func _) _ _ | .ic .. => true
 | _=>false
def aOp (o:Op):Option (AV × W) :=
 match o with
 | .move x | .assign x=>ob (ev x) fun v=>some (v,A)
 | .pick c x y=>ob (ev c) fun c=>match c with
  | .bo true=>ob (ev x) fun v=>some (v,A)
  | .bo false=>ob (ev y) fun v=>some (v,A)
  | _=>none
 | .alloc e=>ob (I.get e) fun ei=>ob (cnd (zIu ei.k ei.zero) (rT A (.typed e ei.zero)) (sO A ei.zero)) fun A'=>some (.pt A.nx 0,A')
 | .box e x=>ob (ev x) fun v=>ck (jH v.cells) (ob (cnd (zPr v) (rT A (.typed e v.cells)) (sO A v.cells)) fun A'=>some (.pt A.nx 0,A'))
 | .build t ps=>ob (zBp I ev t ps.toList) fun v=>some (v,A)
 | .buildSlice t n ps=>Ca I ev A t n ps.toList
 | .load t x=>ob (ev x) fun x=>ob (Rw I A t x) fun v=>some (v,A)
 | .store t x y=>ob (ev x) fun x=>ob (ev y) fun y=>ob (zBm lo I A t x y) fun A'=>some (.tu [],A')
 | .nilCheck x=>ob (ev x) fun v=>ck (zRl v) (some (v,A))
 | .binOp op t x y _=>ob (ev x) fun a=>ob (ev y) fun b=>ob (zPt P I op t x y a b) fun v=>some (v,A)
 | .unOp op _ x=>ob (ev x) fun a=>ob (aUn P op a) fun v=>some (v,A)
 | .convert s d x=>ob (ev x) fun a=>zIw P I A s d a
 | .makeInterface t x=>ob (ev x) fun a=>ob (I.get t) fun ti=>ck (zBt ti.k) (some (.ic t a,A))
 | .makeFunc f fs cs=>ob (avs ev fs.toList) fun fs=>ob (avs ev cs.toList) fun cs=>some (.fn f fs cs,A)
 | .makeMap _ none=>ob (rT A (.map [] 0)) fun A'=>some (.mp A.nx,A')
 | .makeSlice t l c=>ob (ev l) fun l=>ob (ev c) fun c=>Fh I A t l c
 | .slice t x l h m=>ob (ev x) fun x=>ob (opt l) fun l=>ob (opt h) fun h=>ob (opt m) fun m=>ob (zY I A t x l h m) fun v=>some (v,A)
 | .fieldAddr t x f=>ob (ev x) fun x=>ob (Fa I t x f) fun v=>some (v,A)
 | .field t x f=>ob (ev x) fun x=>ob (zBn I t x f) fun v=>some (v,A)
 | .indexAddr t x i=>ob (ev x) fun x=>ob (ev i) fun i=>ob (Fb I t x i) fun v=>some (v,A)
 | .index t x i=>ob (ev x) fun x=>ob (ev i) fun i=>ob (zBo I t x i) fun v=>some (v,A)
 | .lookup t x i ok=>ob (ev x) fun x=>ob (ev i) fun i=>ob (Uz I A t x i ok) fun v=>some (v,A)
 | .mapUpdate t m k x | .insert t m k x=>ob (ev m) fun m=>ob (ev k) fun k=>ob (ev x) fun x=>ob (Va lo I A t m k x) fun A'=>some (.tu [],A')
 | .mapEntry t m k=>ob (ev m) fun m=>ob (ev k) fun k=>Jt lo I A t m k
 | .entryStore _ m s x=>ob (ev m) fun m=>ob (ev s) fun s=>ob (ev x) fun x=>ob (Cb lo A m s x) fun A'=>some (.tu [],A')
 | .range t x=>ob (ev x) fun x=>zBr I A t x
 | .next x b=>ob (ev x) fun x=>zJa lo A x b
 | .entry x=>ob (ev x) fun x=>ob (zBs A x) fun v=>some (v,A)
 | .typeAssert x xt asd ok=>ob (ev x) fun x=>ob (Vb I xt asd x ok) fun v=>some (v,A)
 | .extract x i=>ob (ev x) fun x=>match x with
  | .tu l=>ob (nth l i) fun v=>some (v,A)
  | _=>none
 | .call { callee:=.builtin b,args,argTypes }=>ob (avs ev args.toList) fun xs=>Ox lo I A b argTypes.toList xs
 | _=>none
where
 opt:Option Operand->Option (Option AV)
 | none=>some none
 | some x=>ob (ev x) fun v=>some (some v)
end ops
end Go.Ce
namespace Go.Ce
inductive Ex where
 | normal | exit (id:Nat) | goto (l:Nat) | ret | pan (t:TypeId) (v:AV)
inductive Out where
 | ret (v:AV)
 | pan (t:TypeId) (v:AV)
structure Env where
 P:Program
 I:T CI
 F:T Func
 giv:FuncId->Option (Nat->W->List AV->Option (AV × W))
 tri:FuncId->Option (TypeId × AV)
mutual
def shp:AV->AV->Bool
 | .it k _,.it j _=>decide (k=j)
 | .ag l,.ag m=>Oy l m
 | _,_=>false
def Oy:List AV->List AV->Bool
 | [],[]=>true
 | a :: l,b :: m=>shp a b && Oy l m
 | _,_=>false
end
def ev (tm:T AV):Operand->Option AV
 | .tmp t=>tm.get t
 | .const v=>zIs v
 | .func f=>some (.fn (.func f) [] [])
 | .global _=>none
def iB (n:Nat) (tm:T AV) (d:Option Tmp) (v:AV):Option (T AV) :=
 match d with
 | none=>some tm
 | some d=>ck (Nat.blt d n && Nat.blt d big) (some (tm.put d (some v)))
inductive Md where
 | pl | sc (b:Code) | lp (b:Code)
abbrev Runs:=Nat->Nat->Md->Code->T AV->W->Option (Ex × T AV × W)
def wR:Nat->List AV->T AV->T AV
 | _,[],tm=>tm
 | i,a :: r,tm=>wR (i+1) r (tm.put i (some a))
section
variable (E:Env) (ih:Runs)
def note {α:Type} (_:String) (x:Option α):Option α:=x
def Ou (tm:T AV) (A:W):ResultVar->Option AV
 | .tmp t=>tm.get t
 | .cell a t=>ob (tm.get a) fun v=>Rw E.I A t v
def kJ (tm:T AV) (A:W):List ResultVar->Option (List AV)
 | []=>some []
 | r :: rs=>match Ou E tm A r,kJ tm A rs with
  | some a,some l=>some (a :: l)
  | _,_=>none
def Fp:List AV->AV
 | [a]=>a
 | l=>.tu l
def zH (lo:Nat) (f:FuncId) (args:List AV) (A:W):Option (Out × W) :=
 ob (E.F.get f) fun fn=>ob fn.body fun c=>ck (Nat.ble (len args) fn.ntmps && Nat.blt fn.ntmps big) (
  ob (ih fn.ntmps lo .pl c (wR 0 args .nil) A) fun r=>match r with
  | (.pan t v,_,A')=>some (.pan t v,A')
  | (.normal,tm,A') | (.ret,tm,A')=>ob (kJ E tm A' fn.results.toList) fun l=>some (.ret (Fp l),A')
  | _=>none)
def Dl (lo:Nat) (f:FuncId) (args:List AV) (A:W):Option (Out × W) :=
 match E.giv f with
 | some g=>ob (g lo A args) fun r=>some (.ret r.1,r.2)
 | none=>match E.tri f with
  | some (t,z)=>match args with
   | [.fn (.func g) fs cs]=>ob (zH E ih lo g (fs++cs) A) fun r=>match r with
    | (.ret (.tu []),A')=>some (.ret z,A')
    | (.pan t' v,A')=>ck (Nat.beq t t' && shp z v) (some (.ret v,A'))
    | _=>none
   | _=>none
  | none=>zH E ih lo f args A
def nU (lo:Nat) (o:Oper) (tm:T AV) (A:W):Option (AV × W) :=
 match o.op with
 | .call { callee:=.value x,args,.. }=>ob (ev tm x) fun g=>match g with
  | .fn (.func f) fs cs=>ob (avs (ev tm) args.toList) fun xs=>ob (Dl E ih lo f (fs++xs++cs) A) fun r=>match r with
   | (.ret v,A')=>some (v,A')
   | _=>none
  | _=>none
 | .panic _=>none
 | p=>note o.pos (aOp E.P lo E.I (ev tm) A p)
def Sb (n lo:Nat) (o:Oper) (tm:T AV) (A:W):Option (Ex × T AV × W) :=
 match o.op with
 | .call { callee:=.value x,args,.. }=>ob (ev tm x) fun g=>match g with
  | .fn (.func f) fs cs=>ob (avs (ev tm) args.toList) fun xs=>ob (Dl E ih lo f (fs++xs++cs) A) fun r=>match r with
   | (.ret v,A')=>ob (iB n tm o.dst v) fun tm=>some (.normal,tm,A')
   | (.pan t v,A')=>some (.pan t v,tm,A')
  | _=>none
 | .panic x=>ob (ev tm x) fun v=>match v with
  | .ic t v=>some (.pan t v,tm,A)
  | _=>none
 | p=>ob (note o.pos (aOp E.P lo E.I (ev tm) A p)) fun r=>ob (iB n tm o.dst r.1) fun tm=>some (.normal,tm,r.2)
def bG (ops:List Oper) (j:Nat):Option Nat:=(ops[j]?).bind (·.dst)
def sF (n lo:Nat) (ops:List Oper):List Oper->T AV->W->Option (Ex × T AV × W)
 | [],tm,A=>some (.normal,tm,A)
 | o :: r,tm,A =>
  match o.guard with
  | none=>ob (Sb E ih n lo o tm A) fun x=>match x with
   | (.normal,tm,A)=>sF n lo ops r tm A
   | x=>some x
  | some (j,want)=>ob (bG ops j) fun s=>ob (tm.get s) fun v=>match v with
   | .bo b=>cnd (b == want) (ob (Sb E ih n lo o tm A) fun x=>match x with
     | (.normal,tm,A)=>sF n lo ops r tm A
     | x=>some x)
    (ob (iB n tm o.dst (.tu [])) fun tm=>sF n lo ops r tm A)
   | .tu []=>ob (iB n tm o.dst (.tu [])) fun tm=>sF n lo ops r tm A
   | _=>none
def T.union {α:Type}:T α->T α->T α
 | .nil,b=>b
 | a,.nil=>a
 | .node l v r,.node l' v' r'=>.node (T.union l l') (match v with | some x=>some x | none=>v') (T.union r r')
def T.all {α:Type} (f:α->Bool):T α->Bool
 | .nil=>true
 | .node l v r=>(match v with | some x=>f x | none=>true) && (T.all f l && T.all f r)
def Blk.lone:Blk->Bool
 | .cells _ _ top shr=>top && !shr
 | .ro _=>false
 | _=>true
def T.isNil {α:Type}:T α->Bool
 | .nil=>true
 | _=>false
mutual
def AV.same:AV->AV->Bool
 | .bo a,.bo b=>a == b
 | .it k a,.it j b=>decide (k=j) && decide (a=b)
 | .st a,.st b=>vE a b
 | .np,.np=>true
 | .ns,.ns=>true
 | .nm,.nm=>true
 | .nf,.nf=>true
 | .ni,.ni=>true
 | .pt a b,.pt c d=>Nat.beq a c && Nat.beq b d
 | .mp a,.mp b=>Nat.beq a b
 | .sl a b c d e f,.sl a' b' c' d' e' f'=>Nat.beq a a' && Nat.beq b b' && Nat.beq c c' && Nat.beq d d' && Nat.beq e e' && f == f'
 | .se a,.se b=>a == b
 | .ag l,.ag m=>AV.Ls l m
 | .ic t v,.ic u w=>Nat.beq t u && AV.same v w
 | _,_=>false
def AV.Ls:List AV->List AV->Bool
 | [],[]=>true
 | a :: l,b :: m=>AV.same a b && AV.Ls l m
 | _,_=>false
end
def Lu:List Nat->Nat->Option Nat
 | [],_=>none
 | a :: _,0=>some a
 | _ :: r,n+1=>Lu r n
def Fq (ms:List Nat):List Edge->Option Nat
 | []=>some 0
 | e :: r=>match Region.binds .any e with
  | false=>Fq ms r
  | true=>ob (Lu ms e.on) fun m=>ob (Fq ms r) fun d=>some (Nat.lor (Nat.lor (2 ^ e.on) m) d)
def wS:List Nat->List Oper->Option (List Nat)
 | ms,[]=>some ms
 | ms,o :: r=>ob (Fq ms o.after.toList) fun d=>wS (ms++[d]) r
def bit (m i:Nat):Bool:=Nat.beq (Nat.land (Nat.shiftRight m i) 1) 1
def tmpsOf:List Operand->List Tmp
 | []=>[]
 | .tmp t :: r=>t :: tmpsOf r
 | _ :: r=>tmpsOf r
def view (tm:T AV):List Tmp->T AV
 | []=>.nil
 | t :: r=>match tm.get t with
  | some v=>cnd (Nat.blt t big) ((view tm r).put t (some v)) (view tm r)
  | none=>view tm r
def Ju (ops:List Oper) (x y:Oper):Bool:=Oper.apart ops.toArray x y && Oper.apart ops.toArray y x
def Fv (ops:List Oper) (o:Oper) (d:Nat):List Oper->Nat->Bool
 | [],_=>true
 | x :: r,i=>(bit d i || Ju ops x o) && Fv ops o d r (i+1)
def vF (ops:List Oper):List Oper->List Nat->List Oper->Bool
 | _,_,[]=>true
 | _,[],_=>false
 | done,d :: ds,o :: r=>Fv ops o d done 0 && vF ops (done++[o]) ds r
def distinct:List Tmp->Bool
 | []=>true
 | t :: r=>!tC t r && distinct r
def xI:List Oper->List Tmp
 | []=>[]
 | o :: r=>match o.dst with | some d=>d :: xI r | none=>xI r
def zRm (ops:List Oper) (ds:List Nat):Bool:=vF ops [] ds ops && distinct (xI ops)
mutual
def AV.under (n:Nat):AV->Bool
 | .pt a _ | .sl a _ _ _ _ _ | .mp a=>Nat.blt a n
 | .fn _ l m=>AV.jX n l && AV.jX n m
 | .ic _ v=>AV.under n v
 | .ag l | .tu l=>AV.jX n l
 | _=>true
def AV.jX (n:Nat):List AV->Bool
 | []=>true
 | a :: l=>AV.under n a && AV.jX n l
end
def zYv (o:Oper):Bool :=
 match o.op with
 | .call { callee:=.value _,.. }=>true
 | .call { callee:=.builtin .append,.. }=>true
 | .call { callee:=.builtin .copy,.. }=>true
 | .store .. | .mapUpdate .. | .insert .. | .mapEntry .. | .entryStore .. | .next .. => true
 | _=>false
structure DS where
 tm:T AV
 H:T Blk
 nx:Nat
 pend:List (Nat × T Blk)
 hist:List (Nat × T Blk)
 past:List (Nat × Oper × T AV × AV)
def eP (d:Nat):List (Nat × T Blk)->T Blk × List (Nat × T Blk)
 | []=>(.nil,[])
 | p :: r=>match bit d p.1 with
  | true=>(T.union p.2 (eP d r).1,(eP d r).2)
  | false=>((eP d r).1,p :: (eP d r).2)
def uK:List (Nat × T Blk)->T Blk->T Blk
 | [],H=>H
 | p :: r,H=>T.union p.2 (uK r H)
def chain (d:Nat):List (Nat × T Blk)->Bool
 | []=>true
 | p :: r=>bit d p.1 && chain d r
def Dm (nx:Nat) (H:T Blk) (o:Oper) (tv:T AV) (v:AV):Bool :=
 match nU E ih nx o tv ⟨H,nx⟩ with
 | some (v',A)=>AV.same v' v && Nat.beq A.nx nx
 | none=>false
def Dn (d nx:Nat) (H:T Blk):List (Nat × Oper × T AV × AV)->Bool
 | []=>true
 | p :: r=>(bit d p.1 || Dm E ih nx H p.2.1 p.2.2.1 p.2.2.2) && Dn d nx H r
def reads (d nx:Nat) (o:Oper) (tv:T AV) (v:AV):List (Nat × T Blk)->Bool
 | []=>true
 | p :: r=>(bit d p.1 || Dm E ih nx p.2 o tv v) && reads d nx o tv v r
def Sc (n lo j d:Nat) (o:Oper) (s:DS):Option DS :=
 match zYv o with
 | true =>
  ck (chain d s.hist) (ob (nU E ih lo o (view s.tm (tmpsOf o.op.operands.toList)) ⟨T.union (eP d s.pend).1 s.H,s.nx⟩) fun r=>ob (iB n s.tm o.dst r.1) fun tm =>
   ck (Nat.ble s.nx r.2.nx && Dn E ih d r.2.nx r.2.H s.past) (some { tm,H:=r.2.H,nx:=r.2.nx,pend:=(eP d s.pend).2,hist:=(j,s.H) :: s.hist,past:=s.past }))
 | false =>
  match nU E ih s.nx o (view s.tm (tmpsOf o.op.operands.toList)) ⟨.nil,s.nx⟩ with
  | some (v,A1)=>ob (iB n s.tm o.dst v) fun tm=>ck (Nat.ble s.nx A1.nx && T.all Blk.lone A1.H) (some { s with tm,nx:=A1.nx,pend:=(j,A1.H) :: s.pend })
  | none =>
   ob (nU E ih s.nx o (view s.tm (tmpsOf o.op.operands.toList)) ⟨s.H,s.nx⟩) fun r=>ob (iB n s.tm o.dst r.1) fun tm =>
    ck (Nat.beq r.2.nx s.nx && AV.under s.nx r.1 && reads E ih d s.nx o (view s.tm (tmpsOf o.op.operands.toList)) r.1 s.hist)
     (some { s with tm,past:=(j,o,view s.tm (tmpsOf o.op.operands.toList),r.1) :: s.past })
def Fz (n lo:Nat) (ops:List Oper) (j d:Nat) (o:Oper) (s:DS):Option DS :=
 match o.guard with
 | none=>note (o.pos ++ " drawn") (Sc E ih n lo j d o s)
 | some (i,want)=>ck (bit d i) (ob (bG ops i) fun t=>ob (s.tm.get t) fun v=>match v with
  | .bo b=>cnd (b == want) (Sc E ih n lo j d o s) (ob (iB n s.tm o.dst (.tu [])) fun tm=>some { s with tm })
  | .tu []=>ob (iB n s.tm o.dst (.tu [])) fun tm=>some { s with tm }
  | _=>none)
def zI (n lo:Nat) (ops:List Oper):Nat->List Nat->List Oper->DS->Option DS
 | _,_,[],s=>some s
 | _,[],_ :: _,_=>none
 | j,d :: ds,o :: r,s=>ob (Fz E ih n lo ops j d o s) fun s=>zI n lo ops (j+1) ds r s
def Oz (n lo:Nat) (ops:List Oper) (tm:T AV) (A:W):Option (Ex × T AV × W) :=
 ob (wS [] ops) fun ds=>ck (zRm ops ds) (ob (zI E ih n lo ops 0 ds ops ⟨tm,A.H,A.nx,[],[],[]⟩) fun s =>
  some (.normal,s.tm,⟨uK s.pend s.H,s.nx⟩))
def Dp:Runs:=fun n lo sc c tm A =>
 match sc with
 | .sc a=>ob (ih n lo .pl c tm A) fun x=>match x with
  | (.goto l,tm',A')=>match findLabel a l with
   | some rest=>ih n lo (.sc a) rest tm' A'
   | none=>some x
  | x=>some x
 | .lp a=>ob (ih n lo .pl c tm A) fun x=>match x with
  | (.normal,tm',A')=>ih n lo (.lp a) a tm' A'
  | x=>some x
 | .pl=>match c with
 | .skip | .label _=>some (.normal,tm,A)
 | .region _ ops dr=>match dr with
  | false=>sF E ih n lo ops.toList ops.toList tm A
  | true=>Oz E ih n lo ops.toList tm A
 | .seq a b=>ob (ih n lo .pl a tm A) fun x=>match x with
  | (.normal,tm,A)=>ih n lo .pl b tm A
  | x=>some x
 | .cond c a b=>ob (ev tm c) fun v=>match v with
  | .bo true=>ih n lo .pl a tm A
  | .bo false=>ih n lo .pl b tm A
  | _=>none
 | .block id a=>ob (ih n lo .pl a tm A) fun x=>match x with
  | (.exit i,tm,A)=>some (cnd (Nat.beq i id) .normal (.exit i),tm,A)
  | x=>some x
 | .loop a=>ih n lo (.lp a) a tm A
 | .scope a=>ih n lo (.sc a) a tm A
 | .exit id=>some (.exit id,tm,A)
 | .goto l=>some (.goto l,tm,A)
 | .ret=>some (.ret,tm,A)
 | _=>none
end
def run (E:Env) (fuel:Nat):Runs:=@Nat.rec (fun _=>Runs) (fun _ _ _ _ _ _=>none) (fun _ ih=>Dp E ih) fuel
def call (E:Env) (fuel lo:Nat) (f:FuncId) (args:List AV) (A:W):Option (Out × W):=Dl E (run E fuel) lo f args A
end Go.Ce
