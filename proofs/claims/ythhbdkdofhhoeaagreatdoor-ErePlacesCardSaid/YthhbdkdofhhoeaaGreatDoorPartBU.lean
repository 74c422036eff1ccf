/- Part of a proof over this seat: a library of my own, and what it says of this seat. No statement is proved here. -/
import Derived.Test.YthhbdkdofhhoeaaGreatDoorPartBT
import Derived.Test.YthhbdkdofhhoeaaGreatDoorPartBH
namespace Go.Dec
inductive jL (α:Type) where
 | ok (a:α) (r:List UInt8) (b:Nat)
 | er (e k:Nat)
def gF:List UInt8->Bool
 | []=>false
 | c :: _=>c == 42 || c == 43 || c == 63 || c == 123
def Aj:List UInt8->Bool
 | []=>true
 | c :: _=>c == 124 || c == 41
def zPy:List UInt8:=[46,91,92,40,41,42,43,63,123,125,124,94,36]
def wJ:List UInt8:=zPy++[47]
def qK (r:List UInt8):Option (Int × Int × List UInt8) :=
 match zB r with
 | (none,_)=>none
 | (some lo,r1) =>
  bif [44].isPrefixOf r1 then
   match zB (r1.drop 1) with
   | (none,r2)=>bif [125].isPrefixOf r2 && decide (lo <= 255) then some ((lo:Int),-1,r2.drop 1) else none
   | (some hi,r2)=>bif [125].isPrefixOf r2 && decide (lo <= 255) && decide (hi <= 255) && decide (lo <= hi) && decide (1 <= hi) then some ((lo:Int),(hi:Int),r2.drop 1) else none
  else bif [125].isPrefixOf r1 && decide (lo <= 255) && decide (1 <= lo) then some ((lo:Int),(lo:Int),r1.drop 1) else none
def Pf (t:Pt) (lo hi:Int) (r:List UInt8) (b:Nat):jL Pt :=
 bif gF r then .er 43 r.length else .ok (.times t lo hi) r b
def nZ (t:Pt) (r:List UInt8) (b:Nat):jL Pt :=
 match r with
 | []=>.ok t [] b
 | c :: r1 =>
  bif c == 42 then Pf t 0 (-1) r1 b
  else bif c == 43 then Pf t 1 (-1) r1 b
  else bif c == 63 then Pf t 0 1 r1 b
  else bif c == 123 then
   match qK r1 with
   | none=>.er 43 (r1.length+1)
   | some (lo,hi,r2)=>Pf t lo hi r2 b
  else .ok t (c :: r1) b
def oC (mk:Pt->Pt->Pt):List Pt->Pt
 | []=>.empty
 | [t]=>t
 | t :: u :: ts=>mk t (oC mk (u :: ts))
def gL (ts:List Pt):Pt:=oC .cat ts
def dU (rs:List (List Pt)):Pt:=oC .alt (rs.map gL)
def xY (rows:List UInt8->Nat->jL (List (List Pt))) (r:List UInt8) (b:Nat):jL Pt :=
 match r with
 | []=>.er 40 0
 | c :: r1 =>
  bif c == 94 then (bif gF r1 then .er 43 r1.length else .ok .bol r1 b)
  else bif c == 36 then (bif gF r1 then .er 43 r1.length else .ok .eol r1 b)
  else bif gF (c :: r1) then .er 43 (r1.length+1)
  else bif c == 46 then .ok (.bytes fun _=>true) r1 b
  else bif c == 91 then
   match Ke (c :: r1) with
   | none=>.er 42 (r1.length+1)
   | some (p,k)=>.ok (.bytes p) ((c :: r1).drop k) b
  else bif c == 40 then
   bif b == 9 then .er 41 (r1.length+1)
   else match rows r1 (b+1) with
    | .er e k=>.er e k
    | .ok rs r2 b2=>match r2 with
     | []=>.er 41 (r1.length+1)
     | _ :: r3=>.ok (.group (dU rs) (b+1)) r3 b2
  else bif c == 92 then
   match r1 with
   | []=>.er 40 1
   | d :: r2 =>
    bif d == 110 then .ok (.bytes (Gm 10)) r2 b
    else bif wJ.contains d then .ok (.bytes (Gm d)) r2 b
    else bif decide (49 <= d.toNat) && decide (d.toNat <= 57) then .er 44 (r2.length+2)
    else .er 40 (r2.length+2)
  else .ok (.bytes (Gm c)) r1 b
def lC (rows:List UInt8->Nat->jL (List (List Pt))) (r:List UInt8) (b:Nat):jL Pt :=
 match xY rows r b with
 | .er e k=>.er e k
 | .ok t r1 b1=>nZ t r1 b1
def vB (rows:List UInt8->Nat->jL (List (List Pt))):Nat->List UInt8->Nat->List Pt->jL (List Pt)
 | 0,_,_,_=>.er 0 0
 | f+1,r,b,acc =>
  bif Aj r then .ok acc r b
  else match lC rows r b with
   | .er e k=>.er e k
   | .ok t r1 b1=>vB rows f r1 b1 (acc++[t])
def zR (rows:List UInt8->Nat->jL (List (List Pt))) (top:Bool):Nat->List UInt8->Nat->List (List Pt)->jL (List (List Pt))
 | 0,_,_,_=>.er 0 0
 | f+1,r,b,acc =>
  match vB rows (r.length+1) r b [] with
  | .er e k=>.er e k
  | .ok [] r2 _=>.er (bif top && [41].isPrefixOf r2 then 41 else 40) r2.length
  | .ok (t :: ts) r2 b2 =>
   bif [124].isPrefixOf r2 then zR rows top f (r2.drop 1) b2 (acc++[t :: ts])
   else .ok (acc++[t :: ts]) r2 b2
def oP:Nat->Bool->List UInt8->Nat->jL (List (List Pt))
 | 0,_,_,_=>.er 0 0
 | f+1,top,r,b=>zR (oP f false) top (r.length+1) r b []
def Pg (s:List UInt8):Sum Pt (Nat × Nat) :=
 match s with
 | []=>.inl .empty
 | _=>match oP 11 true s 0 with
  | .er e k=>.inr (e,s.length - k)
  | .ok rs r _ =>
   match r with
   | []=>bif decide ((dU rs).sz > 120) then .inr (2,0) else .inl (dU rs)
   | _=>.inr (41,s.length - r.length)
theorem zHj {r:List UInt8} {lo hi:Int} {r2:List UInt8} (h:qK r=some (lo,hi,r2)):r2 <:+ r:=by
 unfold qK at h
 have n1:=Kh r
 cases hlo:zB r with
 | mk l1 r1 =>
  rw [hlo] at n1 h
  cases l1 with
  | none=>simp at h
  | some l1 =>
   simp only at h n1
   cases hc:[44].isPrefixOf r1 <;> rw [hc] at h <;> simp only [cond_true,cond_false] at h
   ·cases hb:[125].isPrefixOf r1 && decide (l1 <= 255) && decide (1 <= l1) <;> rw [hb] at h <;> simp only [cond_true,cond_false,aA,aB,reduceCtorEq] at h
    rw [<- h.2.2]; exact (List.drop_suffix _ _).trans n1
   ·have n2:=Kh (r1.drop 1)
    cases hhi:zB (r1.drop 1) with
    | mk h1 r3 =>
     rw [hhi] at n2 h
     simp only at n2
     have n3:r3.drop 1 <:+ r:=(List.drop_suffix _ _).trans (n2.trans ((List.drop_suffix _ _).trans n1))
     cases h1 with
     | none =>
      simp only at h
      cases hb:[125].isPrefixOf r3 && decide (l1 <= 255) <;> rw [hb] at h <;> simp only [cond_true,cond_false,aA,aB,reduceCtorEq] at h
      rw [<- h.2.2]; exact n3
     | some h1 =>
      simp only at h
      cases hb:[125].isPrefixOf r3 && decide (l1 <= 255) && decide (h1 <= 255) && decide (l1 <= h1) && decide (1 <= h1) <;> rw [hb] at h <;> simp only [cond_true,cond_false,aA,aB,reduceCtorEq] at h
      rw [<- h.2.2]; exact n3
theorem zVy {r:List UInt8} {lo hi:Int} {r2:List UInt8} (h:qK r=some (lo,hi,r2)):pI lo hi=true:=by
 unfold qK at h
 cases hlo:zB r with
 | mk l1 r1 =>
  rw [hlo] at h
  cases l1 with
  | none=>simp at h
  | some l1 =>
   simp only at h
   cases hc:[44].isPrefixOf r1 <;> rw [hc] at h <;> simp only [cond_true,cond_false] at h
   ·cases hb:[125].isPrefixOf r1 && decide (l1 <= 255) && decide (1 <= l1) <;> rw [hb] at h <;> simp only [cond_true,cond_false,aA,aB,reduceCtorEq] at h
    simp only [aD,decide_eq_true_eq] at hb
    obtain ⟨rfl,rfl,_⟩:=h
    simp [pI]; omega
   ·cases hhi:zB (r1.drop 1) with
    | mk h1 r3 =>
     rw [hhi] at h
     cases h1 with
     | none =>
      simp only at h
      cases hb:[125].isPrefixOf r3 && decide (l1 <= 255) <;> rw [hb] at h <;> simp only [cond_true,cond_false,aA,aB,reduceCtorEq] at h
      simp only [aD,decide_eq_true_eq] at hb
      obtain ⟨rfl,rfl,_⟩:=h
      simp [pI]; omega
     | some h1 =>
      simp only at h
      cases hb:[125].isPrefixOf r3 && decide (l1 <= 255) && decide (h1 <= 255) && decide (l1 <= h1) && decide (1 <= h1) <;> rw [hb] at h <;> simp only [cond_true,cond_false,aA,aB,reduceCtorEq] at h
      simp only [aD,decide_eq_true_eq] at hb
      obtain ⟨rfl,rfl,_⟩:=h
      simp [pI]; omega
def zAd (r:List UInt8) (e k:Nat):Prop:=zYg e∧k <= r.length
def zJz (t:Pt) (r:List UInt8) (b:Nat):jL Pt->Prop
 | .ok t' r' b'=>r' <:+ r∧b'=b∧t'.sz+3 * r'.length <= t.sz+3 * r.length∧(t'=t∨∃ lo hi,t'=.times t lo hi∧pI lo hi=true)
 | .er e k=>zAd r e k
theorem Fa {t:Pt} {lo hi:Int} {r0 r:List UInt8} {b:Nat} (h:r <:+ r0) (h2:r.length < r0.length) (ho:pI lo hi=true):zJz t r0 b (Pf t lo hi r b):=by
 unfold Pf
 cases gF r
 ·exact ⟨h,rfl,by simp only [Pt.sz]; omega,Or.inr ⟨_,_,rfl,ho⟩⟩
 ·exact ⟨⟨by omega,by omega⟩,h.length_le⟩
theorem Sb (t:Pt) (r:List UInt8) (b:Nat):zJz t r b (nZ t r b):=by
 unfold nZ
 cases r with
 | nil=>exact ⟨List.suffix_refl _,rfl,aR _,Or.inl rfl⟩
 | cons c r1 =>
  have hs:r1 <:+ c :: r1:=List.suffix_cons _ _
  have hl:r1.length < (c :: r1).length:=by simp
  simp only
  cases c == 42
  case true=>exact Fa hs hl (by decide)
  cases c == 43
  case true=>exact Fa hs hl (by decide)
  cases c == 63
  case true=>exact Fa hs hl (by decide)
  cases c == 123
  case true =>
   simp only [cond_true,cond_false]
   cases ho:qK r1 with
   | none=>exact ⟨⟨by omega,by omega⟩,by simp⟩
   | some x =>
    obtain ⟨lo,hi,r2⟩:=x
    have:=zHj ho
    have:=this.length_le
    exact Fa ((zHj ho).trans hs) (by simp only [List.length_cons]; omega) (zVy ho)
  exact ⟨List.suffix_refl _,rfl,aR _,Or.inl rfl⟩
def iE:List (List Pt)->Nat
 | []=>0
 | ts :: rs=>szL ts+iE rs
theorem zF:∀ (a b:List (List Pt)),iE (a++b)=iE a+iE b
 | [],b=>by simp [iE]
 | x :: a,b=>by simp only [List.cons_append,iE]; rw [zF a b]; omega
theorem zHk (mk:Pt->Pt->Pt) (hm:∀ a b,(mk a b).sz=a.sz+b.sz+1):∀ (t:Pt) (ts:List Pt),(oC mk (t :: ts)).sz+1=szL (t :: ts)
 | t,[]=>by simp [oC,szL]
 | t,u :: ts=>by
  have:=zHk mk hm u ts
  simp only [oC,hm]
  rw [szL]; omega
theorem zAe (t:Pt) (ts:List Pt):(gL (t :: ts)).sz+1=szL (t :: ts):=zHk _ (fun _ _=>rfl) t ts
def Yf (ts:List Pt):Prop:=ts ≠ []∧∀ t ∈ ts,Oz t
theorem Ux:∀ (rs:List (List Pt)),rs ≠ []->(∀ ts ∈ rs,ts ≠ [])->(dU rs).sz+1 <= iE rs
 | [],h,_=>absurd rfl h
 | [ts],_,h=>by
  have:=h ts (by simp)
  cases ts with
  | nil=>exact absurd rfl this
  | cons t ts=>simp only [dU,List.map_cons,List.map_nil,oC,iE]; have:=zAe t ts; omega
 | ts :: us :: rs,_,h=>by
  have h1:=Ux (us :: rs) (by simp) (fun x hx=>h x (by simp at hx ⊢; exact Or.inr hx))
  have:=h ts (by simp)
  cases ts with
  | nil=>exact absurd rfl this
  | cons t ts =>
   have:=zAe t ts
   simp only [dU,List.map_cons,oC,Pt.sz] at h1 ⊢
   simp only [iE] at h1 ⊢
   omega
end Go.Dec
namespace Go.Dec
def zAf (t:Pt) (b b':Nat):Prop:=∀ i en rf,∃ en',dS t (b,i,en,rf)=(b',i,en',rf)
def Ki (ts:List Pt) (b b':Nat):Prop:=∀ i en rf,∃ en',Gn ts (b,i,en,rf)=(b',i,en',rf)
theorem zTd (a b:List Pt) (w:W4):Gn (a++b) w=Gn b (Gn a w):=by simp [Gn]
theorem Ki.app {a b:List Pt} {x y z:Nat} (h1:Ki a x y) (h2:Ki b y z):Ki (a++b) x z:=fun i en rf=>by
 obtain ⟨e1,h1⟩:=h1 i en rf
 obtain ⟨e2,h2⟩:=h2 i e1 rf
 exact ⟨e2,by rw [zTd,h1,h2]⟩
theorem zAf.one {t:Pt} {x y:Nat} (h:zAf t x y):Ki [t] x y:=h
theorem Ph (mk:Pt->Pt->Pt) (hm:∀ a b w,dS (mk a b) w=dS b (dS a w)):∀ (t:Pt) (ts:List Pt) (w:W4),dS (oC mk (t :: ts)) w=Gn (t :: ts) w
 | t,[],w=>rfl
 | t,u :: ts,w=>by
  simp only [oC,hm]
  rw [Ph mk hm u ts]; rfl
theorem zHl {ts:List Pt} (h:ts ≠ []) (w:W4):dS (gL ts) w=Gn ts w:=by
 cases ts with
 | nil=>exact absurd rfl h
 | cons t ts=>exact Ph _ (fun _ _ _=>rfl) t ts w
def zDq (rs:List (List Pt)) (w:W4):W4:=rs.foldl (fun w ts=>Gn ts w) w
theorem zBy:∀ {rs:List (List Pt)},rs ≠ []->(∀ ts ∈ rs,ts ≠ [])->∀ w,dS (dU rs) w=zDq rs w:=by
 intro rs h1 h2 w
 cases rs with
 | nil=>exact absurd rfl h1
 | cons t ts =>
  rw [dU,List.map_cons,Ph _ (fun _ _ _=>rfl)]
  simp only [Gn,zDq,List.foldl_cons,List.foldl_map]
  rw [zHl (h2 t (by simp))]
  have:∀ (l:List (List Pt)) (w:W4),(∀ x ∈ l,x ≠ [])->l.foldl (fun w t=>dS (gL t) w) w=l.foldl (fun w ts=>Gn ts w) w:=by
   intro l
   induction l with
   | nil=>intro w _; rfl
   | cons x l ih =>
    intro w hx
    simp only [List.foldl_cons]
    rw [zHl (hx x (by simp)),ih _ (fun y hy=>hx y (by simp [hy]))]
  exact this ts _ (fun x hx=>h2 x (by simp [hx]))
def Ak (rs:List (List Pt)) (b b':Nat):Prop:=∀ i en rf,∃ en',zDq rs (b,i,en,rf)=(b',i,en',rf)
theorem Ak.app {a b:List (List Pt)} {x y z:Nat} (h1:Ak a x y) (h2:Ak b y z):Ak (a++b) x z:=fun i en rf=>by
 obtain ⟨e1,h1⟩:=h1 i en rf
 obtain ⟨e2,h2⟩:=h2 i e1 rf
 exact ⟨e2,by simp only [zDq,List.foldl_append] at *; rw [h1,h2]⟩
theorem Pj:∀ (t:Pt) (ts:List Pt),(∀ u ∈ t :: ts,Oz u)->zVx (gL (t :: ts))∧(ts ≠ []->(gL (t :: ts)).kind=4)
 | t,[],h=>⟨by have:=h t (by simp); exact ⟨this.1,this.2.1,this.2.2.1,this.2.2.2.2⟩,fun h=>absurd rfl h⟩
 | t,u :: ts,h=>by
  have hk:=h t (by simp)
  have hv:=(Pj u ts (fun x hx=>h x (by simp at hx ⊢; exact Or.inr hx))).1
  simp only [gL,oC] at hv ⊢
  exact ⟨⟨by simp [iV,hk.1,hv.1],by simp [lX,hk.2.1,hv.2.1,hk.2.2.2.1,hk.2.2.2.2,hv.2.2.2],by simp [lJ,hk.2.2.1,hv.2.2.1],by simp [Pt.kind]⟩,fun _=>rfl⟩
def zHm (t:Pt):Prop:=iV t=true∧lX t=true∧lJ t=true
theorem Uy:∀ (rs:List (List Pt)),rs ≠ []->(∀ ts ∈ rs,Yf ts)->zHm (dU rs)
 | [],h,_=>absurd rfl h
 | [ts],_,h=>by
  have:=h ts (by simp)
  cases ts with
  | nil=>exact absurd rfl this.1
  | cons t ts=>have:=(Pj t ts this.2).1; exact ⟨this.1,this.2.1,this.2.2.1⟩
 | ts :: us :: rs,_,h=>by
  have h1:=Uy (us :: rs) (by simp) (fun x hx=>h x (by simp at hx ⊢; exact Or.inr hx))
  have h2:=h ts (by simp)
  cases ts with
  | nil=>exact absurd rfl h2.1
  | cons t ts =>
   have h3:=(Pj t ts h2.2).1
   simp only [dU,List.map_cons,oC,zHm] at h1 ⊢
   exact ⟨by simp [iV,h3.1,h1.1],by simp [lX,h3.2.1,h1.2.1,h3.2.2.2],by simp [lJ,h3.2.2.1,h1.2.2]⟩
def zHn (r:List UInt8) (b:Nat):jL Pt->Prop
 | .ok t r' b'=>r' <:+ r∧t.sz+2+3 * r'.length <= 3 * r.length∧b <= b'∧b' <= 9∧zAf t b b'∧(zHi t∨((t=.bol∨t=.eol)∧gF r'=false))
 | .er e k=>zAd r e k
def zYu (r:List UInt8) (b:Nat):jL Pt->Prop
 | .ok t r' b'=>r' <:+ r∧t.sz+2+3 * r'.length <= 3 * r.length∧b <= b'∧b' <= 9∧zAf t b b'∧Oz t
 | .er e k=>zAd r e k
def Al (r:List UInt8) (b:Nat):jL (List (List Pt))->Prop
 | .ok rs r' b'=>r' <:+ r∧iE rs+3 * r'.length <= 3 * r.length∧b <= b'∧b' <= 9∧Ak rs b b'∧rs ≠ []∧(∀ ts ∈ rs,Yf ts)∧(r'=[]∨∃ r2,r'=41 :: r2)
 | .er e k=>zAd r e k
theorem Uz {t:Pt} (h:∀ w,dS t w=w) (b:Nat):zAf t b b:=fun i en rf=>⟨en,h _⟩
theorem zNn {rows:List UInt8->Nat->jL (List (List Pt))} {r:List UInt8} {b:Nat} (hb:b <= 9) (hne:r ≠ [])
  (hrow:∀ r,b+1 <= 9->Al r (b+1) (rows r (b+1))):zHn r b (xY rows r b):=by
 cases r with
 | nil=>exact absurd rfl hne
 | cons c r1 =>
  have hs:r1 <:+ c :: r1:=List.suffix_cons _ _
  have hg:∀ e k,40 <= e->e <= 44->k <= r1.length+1->zHn (c :: r1) b (.er e k):=fun e k h1 h2 h3=>⟨⟨h1,h2⟩,h3⟩
  have hbytes:∀ (p:Nat->Bool) (x:List UInt8),kV p=false->x <:+ c :: r1->x.length <= r1.length->zHn (c :: r1) b (.ok (.bytes p) x b):=fun p x hp hx hl =>
   ⟨hx,by simp only [Pt.sz,List.length_cons]; omega,aR _,hb,Uz (fun _=>rfl) b,Or.inl ⟨by simp [iV,hp],rfl,rfl,Or.inl rfl⟩⟩
  unfold xY
  simp only
  cases c == 94
  case true =>
   simp only [cond_true]
   cases ha:gF r1
   ·exact ⟨hs,by simp only [Pt.sz,List.length_cons]; omega,aR _,hb,Uz (fun _=>rfl) b,Or.inr ⟨Or.inl rfl,ha⟩⟩
   ·exact hg _ _ (by omega) (by omega) (by omega)
  cases c == 36
  case true =>
   simp only [cond_true,cond_false]
   cases ha:gF r1
   ·exact ⟨hs,by simp only [Pt.sz,List.length_cons]; omega,aR _,hb,Uz (fun _=>rfl) b,Or.inr ⟨Or.inr rfl,ha⟩⟩
   ·exact hg _ _ (by omega) (by omega) (by omega)
  simp only [cond_false]
  cases gF (c :: r1)
  case true=>exact hg _ _ (by omega) (by omega) (by omega)
  simp only [cond_false]
  cases c == 46
  case true=>exact hbytes _ _ (zHh (i:=0) (by omega) rfl) hs (aR _)
  simp only [cond_false]
  cases c == 91
  case true =>
   simp only [cond_true]
   cases h3:Ke (c :: r1) with
   | none=>exact hg _ _ (by omega) (by omega) (by omega)
   | some x =>
    obtain ⟨p,k⟩:=x
    have hk:=zGw h3
    exact hbytes _ _ (zVw h3) (List.drop_suffix _ _) (by simp only [List.length_drop,List.length_cons]; omega)
  simp only [cond_false]
  cases c == 40
  case true =>
   simp only [cond_true]
   cases h9:b == 9
   case true=>exact hg _ _ (by omega) (by omega) (by omega)
   have hb9:b ≠ 9:=by simpa using h9
   simp only [cond_false]
   have hr:=hrow r1 (by omega)
   cases ho:rows r1 (b+1) with
   | er e k=>rw [ho] at hr; exact hg _ _ hr.1.1 hr.1.2 (by have:=hr.2; omega)
   | ok rs r2 b2 =>
    rw [ho] at hr
    obtain ⟨g1,g2,g3,g4,g5,g6,g7,g8⟩:=hr
    cases r2 with
    | nil=>exact hg _ _ (by omega) (by omega) (by omega)
    | cons d r3 =>
     have hne:∀ ts ∈ rs,ts ≠ []:=fun ts h=>(g7 ts h).1
     have hz:=Ux rs g6 hne
     have ht:=Uy rs g6 g7
     refine ⟨((List.suffix_cons d r3).trans g1).trans hs,by simp only [Pt.sz,List.length_cons] at g2 ⊢; omega,by omega,g4,?_,Or.inl ⟨?_,?_,?_,Or.inr (Or.inl rfl)⟩⟩
     ·intro i en rf
      obtain ⟨en',h⟩:=g5 i en rf
      refine ⟨en'.set (b+1) true,?_⟩
      simp only [dS,decide_true,Bool.and_true]
      rw [zBy g6 hne,h]
     ·simp [iV,ht.1]; omega
     ·simp [lX,ht.2.1]
     ·simp [lJ,ht.2.2]
  simp only [cond_false]
  cases c == 92
  case true =>
   simp only [cond_true]
   cases r1 with
   | nil=>exact hg _ _ (by omega) (by omega) (by simp)
   | cons d r2 =>
    simp only
    have hs2:r2 <:+ c :: d :: r2:=(List.suffix_cons d r2).trans (List.suffix_cons c _)
    cases d == 110
    case true=>exact hbytes _ _ (zAc 10) hs2 (by simp)
    simp only [cond_false]
    cases wJ.contains d
    case true=>exact hbytes _ _ (zAc d) hs2 (by simp)
    simp only [cond_false]
    cases decide (49 <= d.toNat) && decide (d.toNat <= 57)
    ·exact hg _ _ (by omega) (by omega) (by simp)
    ·exact hg _ _ (by omega) (by omega) (by simp)
  exact hbytes _ _ (zAc c) hs (aR _)
theorem Yg {t:Pt} {r:List UInt8} {b:Nat} (h:gF r=false):nZ t r b=.ok t r b:=by
 unfold nZ
 cases r with
 | nil=>rfl
 | cons c r1 =>
  simp only [gF,Bool.or_eq_false_iff] at h
  simp only [h.1.1.1,h.1.1.2,h.1.2,h.2,cond_false]
theorem Kj {rows:List UInt8->Nat->jL (List (List Pt))} {r:List UInt8} {b:Nat} (hb:b <= 9) (hne:r ≠ [])
  (hrow:∀ r,b+1 <= 9->Al r (b+1) (rows r (b+1))):zYu r b (lC rows r b):=by
 have ha:=zNn (rows:=rows) hb hne hrow
 unfold lC
 cases ho:xY rows r b with
 | er e k=>rw [ho] at ha; exact ha
 | ok t r1 b1 =>
  rw [ho] at ha
  obtain ⟨g1,g2,g3,g4,g5,g6⟩:=ha
  simp only
  rcases g6 with g6 | ⟨g6,g7⟩
  ·have ht:=Sb t r1 b1
   cases ho2:nZ t r1 b1 with
   | er e k=>rw [ho2] at ht; exact ⟨ht.1,Nat.le_trans ht.2 g1.length_le⟩
   | ok t2 r2 b2 =>
    rw [ho2] at ht
    obtain ⟨k1,rfl,k3,k4⟩:=ht
    refine ⟨k1.trans g1,by omega,g3,g4,?_,?_⟩
    ·rcases k4 with rfl | ⟨lo,hi,rfl,_⟩
     ·exact g5
     ·exact g5
    ·rcases k4 with rfl | ⟨lo,hi,rfl,ho⟩
     ·exact g6.item
     ·refine ⟨by simp only [iV,g6.1,ho]; rfl,?_,by simp [lJ,g6.2.2.1],by simp [Pt.kind],by simp [Pt.kind]⟩
      simp only [lX,g6.2.1,Bool.true_and,Bool.or_eq_true,decide_eq_true_eq]
      rcases g6.2.2.2 with h | h | h
      ·exact Or.inl (Or.inl h)
      ·exact Or.inl (Or.inr h)
      ·exact Or.inr h
  ·rw [Yg g7]
   refine ⟨g1,by omega,g3,g4,g5,?_⟩
   rcases g6 with rfl | rfl <;> exact ⟨rfl,rfl,rfl,by simp [Pt.kind],by simp [Pt.kind]⟩
def zVz (r:List UInt8) (b:Nat) (acc:List Pt):jL (List Pt)->Prop
 | .ok ts r' b'=>∃ new,ts=acc++new∧r' <:+ r∧szL new+3 * r'.length <= 3 * r.length∧b <= b'∧b' <= 9∧Ki new b b'∧(∀ t ∈ new,Oz t)∧Aj r'=true
 | .er e k=>zAd r e k
theorem Sc {rows:List UInt8->Nat->jL (List (List Pt))} (f0:Nat) (hrow:∀ r b,b+1 <= 9->f0 <= b+1->Al r (b+1) (rows r (b+1))) :
  ∀ (f:Nat) (r:List UInt8) (b:Nat) (acc:List Pt),b <= 9->f0 <= b+1->r.length < f->zVz r b acc (vB rows f r b acc):=by
 intro f
 induction f with
 | zero=>intro r b acc _ _ h; omega
 | succ f ih =>
  intro r b acc hb h0 hf
  unfold vB
  cases hc:Aj r
  case true=>exact ⟨[],by simp,List.suffix_refl _,by simp [szL],aR _,hb,fun i en rf=>⟨en,rfl⟩,by simp,hc⟩
  simp only [cond_false]
  have hi:=Kj (rows:=rows) hb (show r ≠ [] by intro h; rw [h] at hc; cases hc) (fun r h=>hrow r b h h0)
  cases ho:lC rows r b with
  | er e k=>rw [ho] at hi; exact hi
  | ok t r1 b1 =>
   rw [ho] at hi
   obtain ⟨g1,g2,g3,g4,g5,g6⟩:=hi
   have hl:=g1.length_le
   have:=ih r1 b1 (acc++[t]) g4 (by omega) (by omega)
   simp only
   cases ho2:vB rows f r1 b1 (acc++[t]) with
   | er e k=>rw [ho2] at this; exact ⟨this.1,Nat.le_trans this.2 hl⟩
   | ok ts r' b' =>
    rw [ho2] at this
    obtain ⟨new,k1,k2,k3,k4,k5,k6,k7,k8⟩:=this
    refine ⟨t :: new,by rw [k1]; simp,k2.trans g1,by simp only [szL]; omega,by omega,k5,Ki.app (zAf.one g5) k6,?_,k8⟩
    intro u hu
    rcases List.mem_cons.1 hu with rfl | hu
    ·exact g6
    ·exact k7 u hu
theorem zNo {rows:List UInt8->Nat->jL (List (List Pt))} {top:Bool} (f0:Nat) (hrow:∀ r b,b+1 <= 9->f0 <= b+1->Al r (b+1) (rows r (b+1))) :
  ∀ (f:Nat) (r:List UInt8) (b:Nat) (acc:List (List Pt)),b <= 9->f0 <= b+1->r.length < f->(match zR rows top f r b acc with
   | .ok rs r' b'=>∃ new,rs=acc++new∧r' <:+ r∧iE new+3 * r'.length <= 3 * r.length∧b <= b'∧b' <= 9∧Ak new b b'∧new ≠ []∧(∀ ts ∈ new,Yf ts)∧(r'=[]∨∃ r2,r'=41 :: r2)
   | .er e k=>zAd r e k):=by
 intro f
 induction f with
 | zero=>intro r b acc _ _ h; omega
 | succ f ih =>
  intro r b acc hb h0 hf
  unfold zR
  have hi:=Sc (rows:=rows) f0 hrow (r.length+1) r b [] hb h0 (by omega)
  cases ho:vB rows (r.length+1) r b [] with
  | er e k=>rw [ho] at hi; exact hi
  | ok ts r2 b2 =>
   rw [ho] at hi
   obtain ⟨new,k1,k2,k3,k4,k5,k6,k7,k8⟩:=hi
   rw [List.nil_append] at k1
   subst k1
   have hl:=k2.length_le
   cases ts with
   | nil =>
    simp only
    refine ⟨?_,hl⟩
    cases top && [41].isPrefixOf r2 <;> exact ⟨by simp,by simp⟩
   | cons t ts =>
    simp only
    have zUk:Yf (t :: ts):=⟨by simp,k7⟩
    have hn1:Ak [t :: ts] b b2:=k6
    cases hp:[124].isPrefixOf r2
    case false =>
     simp only [cond_false]
     refine ⟨[t :: ts],rfl,k2,by simp only [iE] at k3 ⊢; omega,k4,k5,hn1,by simp,?_,?_⟩
     ·intro x hx; rw [List.mem_singleton] at hx; subst hx; exact zUk
     ·cases r2 with
      | nil=>exact Or.inl rfl
      | cons d r3 =>
       right
       simp only [Aj,Bool.or_eq_true,beq_iff_eq] at k8
       simp only [List.isPrefixOf,Bool.and_true] at hp
       rcases k8 with rfl | rfl
       ·cases hp
       ·exact ⟨_,rfl⟩
    simp only [cond_true]
    have hpl:=mI hp
    simp only [List.length_cons,List.length_nil] at hpl
    have:=ih (r2.drop 1) b2 (acc++[t :: ts]) k5 (by omega) (by rw [List.length_drop]; omega)
    cases ho2:zR rows top f (r2.drop 1) b2 (acc++[t :: ts]) with
    | er e k=>rw [ho2] at this; exact ⟨this.1,by have:=this.2; rw [List.length_drop] at this; omega⟩
    | ok rs r' b' =>
     rw [ho2] at this
     obtain ⟨new,j1,j2,j3,j4,j5,j6,j7,j8,j9⟩:=this
     have j2l:=j2.length_le
     rw [List.length_drop] at j2l j3
     refine ⟨(t :: ts) :: new,by rw [j1]; simp,(j2.trans (List.drop_suffix _ _)).trans k2,by simp only [iE]; omega,by omega,j5,Ak.app hn1 j6,by simp,?_,j9⟩
     intro x hx
     rcases List.mem_cons.1 hx with rfl | hx
     ·exact zUk
     ·exact j8 x hx
theorem Ci:∀ (f:Nat) (top:Bool) (r:List UInt8) (b:Nat),11 <= f+b->b <= 9->Al r b (oP f top r b):=by
 intro f
 induction f with
 | zero=>intro top r b h1 h2; omega
 | succ f ih =>
  intro top r b h1 hb
  have:=zNo (rows:=oP f false) (top:=top) (11 - f) (fun r b h2 h3=>ih false r (b+1) (by omega) h2) (r.length+1) r b [] hb (by omega) (by omega)
  unfold oP
  cases ho:zR (oP f false) top (r.length+1) r b [] with
  | er e k=>rw [ho] at this; exact this
  | ok rs r' b' =>
   rw [ho] at this
   obtain ⟨new,j1,j2,j3,j4,j5,j6,j7,j8,j9⟩:=this
   rw [List.nil_append] at j1
   subst j1
   exact ⟨j2,j3,j4,j5,j6,j7,j8,j9⟩
theorem zIz (s:List UInt8):(∃ t,Pg s=.inl t∧Ye t∧(dS t w0).2.2.2=false)∨∃ e k,Pg s=.inr (e,k)∧(zYg e∨e=2)∧k <= s.length:=by
 cases s with
 | nil=>exact Or.inl ⟨.empty,rfl,⟨by simp [Pt.sz],⟨rfl,rfl,fun h=>by simp [Pt.sz] at h⟩,rfl⟩,rfl⟩
 | cons c s0 =>
  have hg:=Ci 11 true (c :: s0) 0 (by omega) (by omega)
  have he:Pg (c :: s0)=match oP 11 true (c :: s0) 0 with
   | .er e k=>.inr (e,(c :: s0).length - k)
   | .ok rs r _ =>
    match r with
    | []=>bif decide ((dU rs).sz > 120) then .inr (2,0) else .inl (dU rs)
    | _=>.inr (41,(c :: s0).length - r.length):=rfl
  rw [he]
  cases ho:oP 11 true (c :: s0) 0 with
  | er e k=>rw [ho] at hg; exact Or.inr ⟨_,_,rfl,Or.inl hg.1,by omega⟩
  | ok rs r b' =>
   rw [ho] at hg
   obtain ⟨g1,g2,g3,g4,g5,g6,g7,g8⟩:=hg
   simp only
   cases r with
   | cons d r2=>exact Or.inr ⟨_,_,rfl,Or.inl ⟨by omega,by omega⟩,by omega⟩
   | nil =>
    simp only
    by_cases zAg:(dU rs).sz > 120
    ·exact Or.inr ⟨2,0,by simp [zAg],Or.inr rfl,by omega⟩
    ·refine Or.inl ⟨dU rs,by simp [zAg],?_⟩
     have hne:∀ ts ∈ rs,ts ≠ []:=fun ts h=>(g7 ts h).1
     have ht:=Uy rs g6 g7
     obtain ⟨en',h⟩:=g5 true zYe false
     have hw:dS (dU rs) w0=(b',true,en',false):=by rw [zBy g6 hne]; exact h
     exact ⟨⟨by omega,⟨ht.1,ht.2.1,fun _=>ht.2.2⟩,by rw [hw]⟩,by rw [hw]⟩
end Go.Dec
namespace Go.Dec
abbrev Fr:Type:=Int × Int × List Int × List Int × Unit
section
variable {n:Nat} {s r:List UInt8} {b e w:Int} {l:List Nd}
theorem zPz:((List.range 256).all fun i=>decide (Go.Lib.indexByte [42,43,63,123] (UInt8.ofNat i) ≥ 0) == gF [UInt8.ofNat i])=true:=by decide +kernel
theorem zTe (c:UInt8) (r:List UInt8):decide (Go.Lib.indexByte [42,43,63,123] c ≥ 0)=gF (c :: r):=by
 have:=Ie zPz c.toNat_lt
 rw [zDp,beq_iff_eq] at this
 exact this
theorem zAh (h:r <:+ s):bN n (s,psn s r,b,e,w,l,())=some (gF r,s,psn s r,b,e,w,l,()):=by
 unfold bN kE
 simp only
 have hl:=uZ h
 cases r with
 | nil =>
  rw [aJ (by unfold psn; simp)]; rfl
 | cons c r1 =>
  simp only [List.length_cons] at hl
  rw [aO (by unfold psn; simp only [List.length_cons,decide_eq_true_eq]; omega),aF (jI (by unfold psn; omega) (by unfold psn; simp only [List.length_cons]; omega))]
  have hg:bK 0 s (psn s (c :: r1))=c:=by have:=Zz h (j:=0) (c:=c) (d:=0) rfl; simpa using this
  rw [hg]
  simp only [strings_IndexByte,aW,Int.toNat_natCast]
  rw [show (c.toNat).toUInt8=c from zDp c,zTe c r1]
theorem zHo {k at':Int} {x:List UInt8 × Int × Int × Int × Int × List Nd × Unit}:aN n (k,at',x)=some (false,x.1,x.2.1,x.2.2.1,k,at',x.2.2.2.2.2.1,()):=rfl
theorem Yh {at' k a c mi ma nn:Int} {v:List Int} (hl:l.length < 1000000):bI n (k,v,a,c,mi,ma,nn,s,at',b,e,w,l,())=some (((l.length:Nat):Int),s,at',b,e,w,l++[(k,v,a,c,mi,ma,nn,())],()):=by
 unfold bI fF
 simp only
 rw [aF (by simp [room]; omega)]
 simp only [List.length_append,List.length_cons,List.length_nil]
 rw [dY (by omega) (by omega)]
 congr 2; omega
end
theorem Ij (st0:List Fr) (F:Fr):(st0++[F]).take ((st0++[F]).length - 1)=st0:=by simp
theorem Ik (st0:List Fr) (F d:Fr):(st0++[F]).getD ((st0++[F]).length - 1) d=F:=by simp
def rC (x:List UInt8):Option Nat:=bif decide (1 <= x.length) && decide (x.length <= 3) && x.all isDigit then some (dZ x) else none
theorem gJ {c:UInt8}:isDigit c=true <-> 48 <= c.toNat∧c.toNat <= 57:=by simp [isDigit]
theorem yBr:∀ (x:List UInt8) (acc:Nat),x.length <= 3->acc < 1000000->Go.Lib.parseUint10 acc x=if x.all isDigit=true then .ok (x.foldl (fun a c=>a * 10+(c.toNat - 48)) acc) else .«syntax»
 | [],acc,_,_=>by simp [Go.Lib.parseUint10]
 | [a],acc,_,h=>by
  by_cases ha:48 <= a.toNat∧a.toNat <= 57
  ·simp only [Go.Lib.parseUint10,if_pos ha,List.all_cons,List.all_nil,gJ.2 ha,List.foldl]
   rw [if_neg (by omega),if_neg (by omega)]; rfl
  ·have:isDigit a=false:=by rw [Bool.eq_false_iff]; exact fun h=>ha (gJ.1 h)
   simp [Go.Lib.parseUint10,if_neg ha,this]
 | [a,b],acc,_,h=>by
  by_cases ha:48 <= a.toNat∧a.toNat <= 57
  ·by_cases hb:48 <= b.toNat∧b.toNat <= 57
   ·simp only [Go.Lib.parseUint10,if_pos ha,if_pos hb,List.all_cons,List.all_nil,gJ.2 ha,gJ.2 hb,List.foldl]
    rw [if_neg (by omega),if_neg (by omega),if_neg (by omega),if_neg (by omega)]; rfl
   ·have:isDigit b=false:=by rw [Bool.eq_false_iff]; exact fun h=>hb (gJ.1 h)
    simp only [Go.Lib.parseUint10,if_pos ha,if_neg hb,List.all_cons,this]
    rw [if_neg (by omega),if_neg (by omega)]; simp
  ·have:isDigit a=false:=by rw [Bool.eq_false_iff]; exact fun h=>ha (gJ.1 h)
   simp [Go.Lib.parseUint10,if_neg ha,this]
 | [a,b,c],acc,_,h=>by
  by_cases ha:48 <= a.toNat∧a.toNat <= 57
  ·by_cases hb:48 <= b.toNat∧b.toNat <= 57
   ·by_cases hc:48 <= c.toNat∧c.toNat <= 57
    ·simp only [Go.Lib.parseUint10,if_pos ha,if_pos hb,if_pos hc,List.all_cons,List.all_nil,gJ.2 ha,gJ.2 hb,gJ.2 hc,List.foldl]
     rw [if_neg (by omega),if_neg (by omega),if_neg (by omega),if_neg (by omega),if_neg (by omega),if_neg (by omega)]; rfl
    ·have:isDigit c=false:=by rw [Bool.eq_false_iff]; exact fun h=>hc (gJ.1 h)
     simp only [Go.Lib.parseUint10,if_pos ha,if_pos hb,if_neg hc,List.all_cons,this]
     rw [if_neg (by omega),if_neg (by omega),if_neg (by omega),if_neg (by omega)]; simp
   ·have:isDigit b=false:=by rw [Bool.eq_false_iff]; exact fun h=>hb (gJ.1 h)
    simp only [Go.Lib.parseUint10,if_pos ha,if_neg hb,List.all_cons,this]
    rw [if_neg (by omega),if_neg (by omega)]; simp
  ·have:isDigit a=false:=by rw [Bool.eq_false_iff]; exact fun h=>ha (gJ.1 h)
   simp [Go.Lib.parseUint10,if_neg ha,this]
 | _ :: _ :: _ :: _ :: _,_,h,_=>by simp at h
theorem zWa {x:List UInt8} (h:x.length <= 3) (hd:x.all isDigit=true):dZ x < 1000:=by
 have:=zSx hd
 have:(10:Nat) ^ x.length <= 10 ^ 3:=Nat.pow_le_pow_right (by omega) h
 omega
theorem zHp {n:Nat} {x:List UInt8} (hx:x.length < 1000000):tO n x=some (Ox (rC x)):=by
 unfold tO vD
 simp only
 rw [aF (Nat.ble_eq_true_of_le (by omega))]
 simp only [aW]
 cases x with
 | nil=>rfl
 | cons c x1 =>
  by_cases hl:(c :: x1).length <= 3
  ·by_cases hc:48 <= c.toNat∧c.toNat <= 57
   ·have ha:Go.Lib.atoiAll (c :: x1)=if (c :: x1).all isDigit=true then .ok ((dZ (c :: x1):Nat):Int) else .«syntax» := by
     rw [Go.Lib.atoiAll_plain _ _ (by omega) (by omega),Go.Lib.parseMag,if_neg (by simp),yBr _ _ hl (by omega)]
     by_cases hd:(c :: x1).all isDigit=true
     ·rw [if_pos hd,if_pos hd]
      have:=zWa hl hd
      simp only [dZ] at this ⊢
      simp only [Go.Lib.signless]
      rw [if_neg (by omega)]
     ·rw [if_neg hd,if_neg hd]; rfl
    unfold Ww rC
    rw [ha]
    by_cases hd:(c :: x1).all isDigit=true
    ·rw [if_pos hd]
     simp only [Bool.not_false,Bool.not_true,bX]
     rw [aJ (by simp only [decide_eq_false_iff_not]; omega),aF (jI (by omega) (by simp)),show bK 0 (c :: x1) 0=c from rfl,aJ (by simp; omega),aF (jI (by omega) (by simp)),aJ (by simp; omega),hd]
     simp only [List.length_cons] at hl ⊢
     rw [decide_eq_true (show 1 <= x1.length+1 by omega),decide_eq_true hl]; rfl
    ·rw [if_neg hd]
     rw [Bool.not_eq_true] at hd
     rw [hd]
     simp only [Bool.not_true,Bool.not_false,eU,Bool.and_false,cond_false,Ox]
   ·have hd:(c :: x1).all isDigit=false:=by
     rw [List.all_cons,Bool.and_eq_false_iff]; left; rw [Bool.eq_false_iff]; exact fun h=>hc (gJ.1 h)
    unfold rC
    rw [hd]
    simp only [Bool.and_false,cond_false,Ox]
    cases (!(!(Ww (c :: x1)).2))
    ·simp only [bX]
     rw [aJ (by simp only [decide_eq_false_iff_not]; omega),aF (jI (by omega) (by simp)),show bK 0 (c :: x1) 0=c from rfl]
     by_cases h1:c.toNat < 48
     ·rw [aO (by simp; omega)]
     ·rw [aJ (by simp; omega),aF (jI (by omega) (by simp)),aO (by simp; omega)]
    ·simp only [eU]
  ·unfold rC
   rw [decide_eq_false (show ¬ (c :: x1).length <= 3 by omega)]
   simp only [Bool.and_false,Bool.false_and,cond_false,Ox]
   cases (!(!(Ww (c :: x1)).2))
   ·simp only [bX]
    rw [aO (by simp only [decide_eq_true_eq]; omega)]
   ·simp only [eU]
def upTo (c:UInt8) (r:List UInt8):List UInt8:=r.takeWhile (· != c)
theorem vU (c:UInt8) (r:List UInt8):upTo c (c :: r)=[]:=by simp [upTo]
theorem pK {c d:UInt8} (h:d ≠ c) (r:List UInt8):upTo c (d :: r)=d :: upTo c r:=by simp [upTo,h]
theorem zQa (c:UInt8):∀ r:List UInt8,Go.Lib.index r [c]=if c ∈ r then (((upTo c r).length:Nat):Int) else -1
 | []=>by rfl
 | d :: r=>by
  have ih:=zQa c r
  rw [Go.Lib.index]
  by_cases h:c=d
  ·subst h
   rw [if_pos (by simp [List.isPrefixOf]),if_pos (by simp),vU]; rfl
  ·have h1:([c]:List UInt8).isPrefixOf (d :: r)=false:=by simp [List.isPrefixOf,h]
   rw [if_neg (by rw [h1]; simp),ih,pK (fun e=>h e.symm)]
   by_cases hm:c ∈ r
   ·simp only [if_pos hm,List.mem_cons,hm,or_true,if_true,List.length_cons]
    rw [if_neg (by simp)]; rfl
   ·simp only [if_neg hm,List.mem_cons,h,hm,or_false,if_false]
    rfl
theorem zAi (c:UInt8) (r:List UInt8):Go.Lib.cut r [c]=if c ∈ r then (upTo c r,r.drop ((upTo c r).length+1),true) else (r,[],false):=by
 unfold Go.Lib.cut
 rw [zQa]
 by_cases h:c ∈ r
 ·rw [if_pos h,if_pos h]
  have:r.take (upTo c r).length=upTo c r:=by
   unfold upTo
   have:=List.takeWhile_append_dropWhile (p:=fun x=>x != c) (l:=r)
   conv=>lhs; arg 2; rw [<- this]
   rw [List.take_left]
  simp [this]
 ·rw [if_neg h,if_neg h]; rfl
theorem Kk {c:UInt8} {a:List UInt8} (h:c ∉ a) (r:List UInt8):upTo c (a++r)=a++upTo c r:=by
 induction a with
 | nil=>rfl
 | cons d a ih =>
  rw [List.cons_append,pK (fun e=>h (by simp [e])),ih (fun e=>h (by simp [e]))]; rfl
end Go.Dec
namespace Go.Dec
theorem zBz:∀ (m:Nat) (r:List UInt8),nJ m r=m∨r.drop (nJ m r)=[]∨∃ c t,r.drop (nJ m r)=c :: t∧isDigit c=false
 | 0,_=>Or.inl rfl
 | m+1,[]=>Or.inr (Or.inl rfl)
 | m+1,c :: r=>by
  unfold nJ
  cases h:isDigit c
  ·exact Or.inr (Or.inr ⟨c,r,rfl,h⟩)
  ·simp only [cond_true]
   rcases zBz m r with h1 | h1 | ⟨d,t,h1,h2⟩
   ·exact Or.inl (by omega)
   ·exact Or.inr (Or.inl h1)
   ·exact Or.inr (Or.inr ⟨d,t,h1,h2⟩)
theorem Yi (r:List UInt8) :
  (zB r=(none,r)∧(r=[]∨∃ c t,r=c :: t∧isDigit c=false)) ∨
  ∃ ds r1,r=ds++r1∧zB r=(some (dZ ds),r1)∧1 <= ds.length∧ds.length <= 3∧ds.all isDigit=true∧(ds.length=3∨r1=[]∨∃ c t,r1=c :: t∧isDigit c=false):=by
 have hl:=zJw 3 r
 have ha:=zGx 3 r
 have hs:=zBz 3 r
 have hn:zB r=(bif nJ 3 r == 0 then none else some (dZ (r.take (nJ 3 r))),r.drop (nJ 3 r)):=rfl
 by_cases h0:nJ 3 r=0
 ·left
  rw [hn,h0]
  refine ⟨rfl,?_⟩
  rw [h0] at hs
  rcases hs with h | h | ⟨c,t,h,h2⟩
  ·omega
  ·exact Or.inl h
  ·exact Or.inr ⟨c,t,h,h2⟩
 ·right
  refine ⟨r.take (nJ 3 r),r.drop (nJ 3 r),(List.take_append_drop _ _).symm,?_,?_,?_,ha,?_⟩
  ·rw [hn,show (nJ 3 r == 0)=false by simpa using h0]; rfl
  ·rw [List.length_take]; omega
  ·rw [List.length_take]; omega
  ·rw [List.length_take,Nat.min_eq_left hl.2]; exact hs
theorem zCa {x:List UInt8} (h:x=[]∨∃ c t,x=c :: t∧isDigit c=false):rC x=none:=by
 rcases h with rfl | ⟨c,t,rfl,h⟩
 ·rfl
 ·unfold rC; simp [h]
theorem Pk {ds:List UInt8} (h1:1 <= ds.length) (h3:ds.length <= 3) (ha:ds.all isDigit=true):rC ds=some (dZ ds):=by
 unfold rC; rw [ha,decide_eq_true h1,decide_eq_true h3]; rfl
theorem zCb {ds:List UInt8} {c:UInt8} {t:List UInt8} (h:ds.length=3∨isDigit c=false):rC (ds++c :: t)=none:=by
 unfold rC
 rcases h with h | h
 ·rw [decide_eq_false (show ¬ (ds++c :: t).length <= 3 by simp; omega)]; simp
 ·rw [show (ds++c :: t).all isDigit=false by simp [h]]; simp
theorem zHq {ds:List UInt8} (ha:ds.all isDigit=true) {c:UInt8} (hc:isDigit c=false):c ∉ ds:=by
 intro h
 have:=List.all_eq_true.1 ha c h
 rw [hc] at this; cases this
theorem zTf {r:List UInt8} {x:Int × Int × List UInt8} (h:qK r=some x):125 ∈ r:=by
 have hpre:∀ {u:List UInt8},u <:+ r->[125].isPrefixOf u=true->125 ∈ r:=by
  intro u hu hp
  obtain ⟨t,rfl⟩:=zYd hp
  exact hu.subset (by simp)
 unfold qK at h
 have n1:=Kh r
 cases hlo:zB r with
 | mk l1 r1 =>
  rw [hlo] at n1 h
  cases l1 with
  | none=>simp at h
  | some l1 =>
   simp only at h n1
   cases hc:[44].isPrefixOf r1 <;> rw [hc] at h <;> simp only [cond_true,cond_false] at h
   ·cases hb:[125].isPrefixOf r1 with
    | false=>rw [hb] at h; simp at h
    | true=>exact hpre n1 hb
   ·have n2:=Kh (r1.drop 1)
    cases hhi:zB (r1.drop 1) with
    | mk h1 r3 =>
     rw [hhi] at n2 h
     simp only at n2
     have n3:r3 <:+ r:=n2.trans ((List.drop_suffix _ _).trans n1)
     cases hb:[125].isPrefixOf r3 with
     | false=>cases h1 <;> simp [hb] at h
     | true=>exact hpre n3 hb
def zS (x:List UInt8):Int × Int × Bool :=
 match rC (Go.Lib.cut x [44]).1 with
 | none=>(0,0,false)
 | some lo =>
  bif (Go.Lib.cut x [44]).2.2 then
   match rC (Go.Lib.cut x [44]).2.1 with
   | none=>bif (Go.Lib.cut x [44]).2.1.isEmpty && decide (lo <= 255) then ((lo:Int),-1,true) else (0,0,false)
   | some hi=>bif decide (lo <= 255) && decide (hi <= 255) && decide (lo <= hi) && decide (1 <= hi) then ((lo:Int),(hi:Int),true) else (0,0,false)
  else bif decide (lo <= 255) && decide (1 <= lo) then ((lo:Int),(lo:Int),true) else (0,0,false)
theorem zKa (c:UInt8) (x:List UInt8):(Go.Lib.cut x [c]).1.length <= x.length∧(Go.Lib.cut x [c]).2.1.length <= x.length:=by
 rw [zAi]
 by_cases h:c ∈ x
 ·rw [if_pos h]
  refine ⟨?_,by simp⟩
  exact (List.takeWhile_sublist _).length_le
 ·rw [if_neg h]; simp
theorem zKb {lo hi:Nat} (h1:1 <= hi) (h:lo <= hi):¬ ((hi:Int) < if (1:Int) > (lo:Int) then (1:Int) else (lo:Int)):=by split <;> omega
theorem Va {lo hi:Nat} (h1:¬ 1 <= hi∨¬ lo <= hi):(hi:Int) < if (1:Int) > (lo:Int) then (1:Int) else (lo:Int):=by split <;> omega
theorem zYv {n:Nat} {x:List UInt8} (hx:x.length < 1000000):Dv n x=some (zS x):=by
 unfold Dv strings_Cut zS
 simp only
 rw [aF (by simp; omega)]
 obtain ⟨h1,h2⟩:=zKa 44 x
 simp only [aW]
 generalize Go.Lib.cut x [44]=y at h1 h2 ⊢
 obtain ⟨a,b,two⟩:=y
 simp only at h1 h2 ⊢
 rw [zHp (by omega)]
 simp only [aW]
 cases two
 ·simp only [bX,cond_false]
  cases rC a with
  | none=>simp only [Ox]; rw [aO (by rfl)]
  | some lo =>
   simp only [Ox]
   rw [aJ (zDo lo)]
   by_cases h5:lo <= 255
   ·rw [aJ (by simp; omega),aJ (by simp; omega),aO (zUi lo)]
    by_cases h6:1 <= lo
    ·refine (aJ (decide_eq_false (zKb h6 (aR _))) _ _).trans ?_; rw [decide_eq_true h5,decide_eq_true h6]; rfl
    ·refine (aO (decide_eq_true (Va (Or.inl h6))) _ _).trans ?_; rw [decide_eq_false h6,Bool.and_false]; rfl
   ·rw [aO (by simp; omega),decide_eq_false h5]; rfl
 ·simp only [eU,cond_true]
  rw [zHp (by omega)]
  simp only [aW]
  cases rC a with
  | none=>simp only [Ox]; rw [aO (by rfl)]
  | some lo =>
   simp only [Ox]
   rw [aJ (zDo lo)]
   cases rC b with
   | none =>
    simp only
    rw [aO (by rfl)]
    have e1:((-1:Int) != -1)=false:=rfl
    have e2:(b == [])=b.isEmpty:=by cases b <;> rfl
    rw [e2,e1]
    cases b.isEmpty
    ·simp only [Bool.not_false,eU,Bool.false_and,cond_false]
    ·simp only [Bool.not_true,bX,Bool.true_and]
     by_cases h5:lo <= 255
     ·rw [aJ (by simp; omega),aJ (by simp),decide_eq_true h5]; rfl
     ·rw [aO (by simp; omega),decide_eq_false h5]; rfl
   | some hi =>
    simp only
    rw [aJ (zDo hi)]
    by_cases h5:lo <= 255
    ·rw [aJ (by simp; omega),decide_eq_true h5]
     by_cases h6:hi <= 255
     ·rw [aJ (by simp; omega),aO (zUi hi),decide_eq_true h6]
      by_cases h7:lo <= hi
      ·rw [decide_eq_true h7]
       by_cases h8:1 <= hi
       ·refine (aJ (decide_eq_false (zKb h8 h7)) _ _).trans ?_; rw [decide_eq_true h8]; rfl
       ·refine (aO (decide_eq_true (Va (Or.inl h8))) _ _).trans ?_; rw [decide_eq_false h8]; rfl
      ·refine (aO (decide_eq_true (Va (Or.inr h7))) _ _).trans ?_; rw [decide_eq_false h7]; rfl
     ·rw [aO (by simp; omega),decide_eq_false h6]; rfl
    ·rw [aO (by simp; omega),decide_eq_false h5]; rfl
theorem zUl {a t:List UInt8} (h:(44:UInt8) ∉ a):Go.Lib.cut (a++44 :: t) [44]=(a,t,true):=by
 rw [zAi,if_pos (by simp),Kk h,vU,List.append_nil]
 rw [List.drop_append,List.drop_eq_nil_of_le (by omega),show a.length+1 - a.length=1 by omega]; rfl
theorem zYw {a:List UInt8} (h:(44:UInt8) ∉ a):Go.Lib.cut a [44]=(a,[],false):=by rw [zAi,if_neg h]
theorem zKc {a:List UInt8} (h:(44:UInt8) ∉ a) {c:UInt8} (hc:c ≠ 44) (t:List UInt8):∃ t',(Go.Lib.cut (a++c :: t) [44]).1=a++c :: t':=by
 rw [zAi]
 by_cases hm:44 ∈ a++c :: t
 ·rw [if_pos hm,Kk h,pK hc]; exact ⟨_,rfl⟩
 ·rw [if_neg hm]; exact ⟨_,rfl⟩
theorem zQb (r:List UInt8):match qK r with
  | none=>(Go.Lib.cut r [125]).2.2=false∨zS (Go.Lib.cut r [125]).1=(0,0,false)
  | some (lo,hi,r2)=>(Go.Lib.cut r [125]).2.2=true∧zS (Go.Lib.cut r [125]).1=(lo,hi,true)∧r2=r.drop ((Go.Lib.cut r [125]).1.length+1)∧(Go.Lib.cut r [125]).1.length+1 <= r.length:=by
 by_cases hm:125 ∈ r
 case neg =>
  cases ht:qK r with
  | none=>left; rw [zAi,if_neg hm]
  | some x=>exact absurd (zTf ht) hm
 rw [zAi,if_pos hm]
 have zYx:isDigit 125=false:=by decide
 have d44:isDigit 44=false:=by decide
 rcases Yi r with ⟨h1,h2⟩ | ⟨ds,r1,rfl,h1,k1,k3,ha,hst⟩
 ·have:qK r=none:=by unfold qK; rw [h1]
  rw [this]
  right
  unfold zS
  have:rC (Go.Lib.cut (upTo 125 r) [44]).1=none:=by
   refine zCa ?_
   rcases h2 with rfl | ⟨c,t,rfl,hc⟩
   ·exact Or.inl rfl
   ·by_cases zAj:c=125
    ·subst zAj; rw [vU]; exact Or.inl rfl
    ·rw [pK zAj]
     by_cases h44:c=44
     ·subst h44; have:=zUl (a:=[]) (t:=upTo 125 t) (by simp); rw [List.nil_append] at this; rw [this]; exact Or.inl rfl
     ·obtain ⟨t',h⟩:=zKc (a:=[]) (by simp) h44 (upTo 125 t)
      rw [List.nil_append] at h; rw [h]
      exact Or.inr ⟨c,t',rfl,hc⟩
  rw [this]
 ·have n125:=zHq ha zYx
  have n44:=zHq ha d44
  rw [Kk n125]
  cases r1 with
  | nil=>exact absurd hm (by simpa using n125)
  | cons c t =>
   have hcc:ds.length=3∨isDigit c=false:=by
    rcases hst with h | h | ⟨c',t',h,h2⟩
    ·exact Or.inl h
    ·cases h
    ·obtain ⟨rfl,rfl⟩:=List.cons.inj h; exact Or.inr h2
   have hdr:∀ x:List UInt8,(ds++x).drop (ds.length+1)=x.drop 1:=fun x=>by
    rw [List.drop_append,List.drop_eq_nil_of_le (by omega),show ds.length+1 - ds.length=1 by omega]; rfl
   by_cases zAj:c=125
   ·subst zAj
    rw [vU,List.append_nil]
    have hs:zS ds=bif decide (dZ ds <= 255) && decide (1 <= dZ ds) then ((dZ ds:Int),(dZ ds:Int),true) else (0,0,false):=by
     unfold zS; rw [zYw n44]; simp only; rw [Pk k1 k3 ha]; rfl
    have ht:qK (ds++125 :: t)=bif decide (dZ ds <= 255) && decide (1 <= dZ ds) then some ((dZ ds:Int),(dZ ds:Int),t) else none:=by
     unfold qK; rw [h1]; rfl
    rw [ht,hs]
    cases decide (dZ ds <= 255) && decide (1 <= dZ ds)
    ·exact Or.inr rfl
    ·exact ⟨rfl,rfl,by rw [hdr]; rfl,by simp⟩
   ·rw [pK zAj]
    by_cases h44:c=44
    ·subst h44
     have hsv:∀ q:List UInt8,zS (ds++44 :: q)=match rC q with
       | none=>bif q.isEmpty && decide (dZ ds <= 255) then ((dZ ds:Int),-1,true) else (0,0,false)
       | some hi=>bif decide (dZ ds <= 255) && decide (hi <= 255) && decide (dZ ds <= hi) && decide (1 <= hi) then ((dZ ds:Int),(hi:Int),true) else (0,0,false):=fun q=>by
      unfold zS; rw [zUl n44]; simp only; rw [Pk k1 k3 ha]; rfl
     rw [hsv]
     have htv:qK (ds++44 :: t)=match zB t with
       | (none,r2)=>bif [125].isPrefixOf r2 && decide (dZ ds <= 255) then some ((dZ ds:Int),-1,r2.drop 1) else none
       | (some hi,r2)=>bif [125].isPrefixOf r2 && decide (dZ ds <= 255) && decide (hi <= 255) && decide (dZ ds <= hi) && decide (1 <= hi) then some ((dZ ds:Int),(hi:Int),r2.drop 1) else none:=by
      unfold qK; rw [h1]; rfl
     rw [htv]
     have zYy:∀ x y:List UInt8,(ds++44 :: (x++y)).drop ((ds++44 :: x).length+1)=y.drop 1:=fun x y=>by
      rw [show ds++44 :: (x++y)=(ds++44 :: x)++y by simp,List.drop_append,List.drop_eq_nil_of_le (by omega),show (ds++44 :: x).length+1 - (ds++44 :: x).length=1 by omega]; rfl
     rcases Yi t with ⟨g1,g2⟩ | ⟨es,r2,rfl,g1,j1,j3,hb,zTg⟩
     ·rw [g1]
      simp only
      rw [show rC (upTo 125 t)=none by
       refine zCa ?_
       rcases g2 with rfl | ⟨d,t',rfl,hd⟩
       ·exact Or.inl rfl
       ·by_cases h:d=125
        ·subst h; rw [vU]; exact Or.inl rfl
        ·rw [pK h]; exact Or.inr ⟨d,_,rfl,hd⟩]
      simp only
      rcases g2 with rfl | ⟨d,t',rfl,hd⟩
      ·exact absurd hm (by simp; exact n125)
      ·by_cases h:d=125
       ·subst h
        rw [vU]
        simp only [List.isEmpty_nil,List.isPrefixOf,beq_self_eq_true,Bool.and_true,Bool.true_and]
        cases decide (dZ ds <= 255)
        ·exact Or.inr rfl
        ·refine ⟨trivial,rfl,?_,by simp only [List.length_append,List.length_cons,List.length_nil]; omega⟩
         have:=zYy [] (125 :: t')
         rw [List.nil_append] at this; rw [this]
       ·rw [pK h]
        have e:([125]:List UInt8).isPrefixOf (d :: t')=false:=by simp [List.isPrefixOf]; exact fun hh=>h hh.symm
        rw [e]
        simp only [Bool.false_and,cond_false,List.isEmpty_cons]
        right; trivial
     ·have zYz:=zHq hb zYx
      rw [g1,Kk zYz]
      simp only
      cases r2 with
      | nil=>exact absurd hm (by simp; exact ⟨n125,zYz⟩)
      | cons d t' =>
       have hdd:es.length=3∨isDigit d=false:=by
        rcases zTg with h | h | ⟨c',t',h,h2⟩
        ·exact Or.inl h
        ·cases h
        ·obtain ⟨rfl,rfl⟩:=List.cons.inj h; exact Or.inr h2
       by_cases h:d=125
       ·subst h
        rw [vU,List.append_nil,Pk j1 j3 hb]
        simp only [List.isPrefixOf,beq_self_eq_true,Bool.and_true,Bool.true_and]
        cases decide (dZ ds <= 255) && decide (dZ es <= 255) && decide (dZ ds <= dZ es) && decide (1 <= dZ es)
        ·exact Or.inr rfl
        ·refine ⟨trivial,rfl,?_,by simp only [List.length_append,List.length_cons]; omega⟩
         rw [zYy]
       ·rw [pK h,zCb hdd]
        have e:([125]:List UInt8).isPrefixOf (d :: t')=false:=by simp [List.isPrefixOf]; exact fun hh=>h hh.symm
        rw [e]
        simp only [Bool.false_and,cond_false]
        right
        have:(es++d :: upTo 125 t').isEmpty=false:=by cases es <;> rfl
        rw [this]; rfl
    ·have ht:qK (ds++c :: t)=none:=by
      unfold qK; rw [h1]
      have e1:([44]:List UInt8).isPrefixOf (c :: t)=false:=by simp [List.isPrefixOf]; exact fun hh=>h44 hh.symm
      have e2:([125]:List UInt8).isPrefixOf (c :: t)=false:=by simp [List.isPrefixOf]; exact fun hh=>zAj hh.symm
      simp only [e1,e2,cond_false,Bool.false_and]
     rw [ht]
     right
     unfold zS
     obtain ⟨t',h⟩:=zKc n44 h44 (upTo 125 t)
     simp only
     rw [h,zCb hcc]
end Go.Dec
namespace Go.Dec
def zNp (st : List Fr) (top : Int) (x : Er9) : Option (Bool × Er0) :=
  chk (Nat.ble 1 st.length) (
   chk (Nat.ble 1 ((st.take (st.length - 1)).length + 1)) (
    chk (Nat.ble 1 ((st.take (st.length - 1)).length + 1)) (
     chk (decide (((st.take (st.length - 1)).length + 1) - 1 = (st.take (st.length - 1)).length)) (
      chk (Nat.ble (((st.getD (st.length - 1) (0, 0, [], [], ())).2.2.2.1.length + ([top] : List (Int)).length) * 8) room) (
       chk (decide (((st.take (st.length - 1)).length + 1) - 1 = (st.take (st.length - 1)).length)) (
        some (true, x.1, x.2.1, x.2.2.1, x.2.2.2.1, x.2.2.2.2.1, x.2.2.2.2.2.1, (st.take (st.length - 1)) ++ [((st.getD (st.length - 1) (0, 0, [], [], ())).1, (st.getD (st.length - 1) (0, 0, [], [], ())).2.1, (st.getD (st.length - 1) (0, 0, [], [], ())).2.2.1, (st.getD (st.length - 1) (0, 0, [], [], ())).2.2.2.1 ++ [top], ())], ())))))))
def zHr (F:Fr) (top:Int):Fr:=(F.1,F.2.1,F.2.2.1,F.2.2.2.1++[top],())
theorem zHs {st0:List Fr} {F:Fr} {top:Int} {x:Er9} (hF:F.2.2.2.1.length < 1000000):zNp (st0++[F]) top x=some (true,x.1,x.2.1,x.2.2.1,x.2.2.2.1,x.2.2.2.2.1,x.2.2.2.2.2.1,st0++[zHr F top],()):=by
 unfold zNp
 rw [Ij,Ik]
 rw [aF (Nat.ble_eq_true_of_le (by simp)),aF (Nat.ble_eq_true_of_le (by omega)),aF (Nat.ble_eq_true_of_le (by omega)),aF (decide_eq_true (by omega)),aF (Nat.ble_eq_true_of_le (by simp only [List.length_cons,List.length_nil,room]; omega)),aF (decide_eq_true (by omega))]
 rfl
def EOK (s:List UInt8) (l:List Nd) (st0:List Fr) (F:Fr) (o:jL Pt) (e:Option (Bool × Er0)):Prop:=match o with
 | .ok t r b=>e=some (true,s,psn s r,(b:Int),0,0,l++t.enc l.length,st0++[zHr F (t.top l.length)],())
 | .er c k=>∃ (a b':Int) (l':List Nd) (st':List Fr),e=some (false,s,a,b',(c:Int),((s.length - k:Nat):Int),l',st',())
section
variable {n:Nat} {s r:List UInt8} {b:Nat} {l:List Nd} {st0:List Fr} {F:Fr}
theorem zDr {t : Pt} {lo hi : Int} (h : r <:+ s) (hl : l.length + t.sz < 900000) (hF : F.2.2.2.1.length < 1000000) : EOK s l st0 F (Pf t lo hi r b) (
    ob (bI n (6, [0, 0, 0, 0], t.top l.length, 0, lo, hi, 0, s, psn s r, (b : Int), 0, 0, l ++ t.enc l.length, ())) fun y13 =>
    ob (bN n (y13.2)) fun y14 =>
    br y14.1 (
     ob (aN n (43, y14.2.2.1, y14.2)) fun y15 =>
     some (y15.1, y15.2.1, y15.2.2.1, y15.2.2.2.1, y15.2.2.2.2.1, y15.2.2.2.2.2.1, y15.2.2.2.2.2.2.1, st0 ++ [F], ())) (
     zNp (st0 ++ [F]) y13.1 y14.2)) := by
  rw [Yh (by rw [List.length_append, Pt.eT]; omega)]
  simp only [aW]
  rw [zAh h]
  simp only [aW]
  unfold Pf
  cases gF r
  · simp only [bX, cond_false, EOK]
    rw [zHs hF]
    simp only [Pt.enc, Pt.top, Pt.sz, List.length_append, Pt.eT, List.append_assoc]
    have : ((l.length + t.sz : Nat) : Int) = ((l.length + (t.sz + 1) : Nat) : Int) - 1 := by omega
    rw [this]
  · simp only [eU, cond_true, zHo, aW]
    exact ⟨_, _, _, _, rfl⟩
theorem zQc {t:Pt} (h:r <:+ s) (hs:s.length < 1000000) (hl:l.length+t.sz < 900000) (hF:F.2.2.2.1.length < 1000000) :
  EOK s l st0 F (nZ t r b) (eX n (t.top l.length,s,psn s r,(b:Int),0,0,l++t.enc l.length,st0++[F],())):=by
 unfold eX
 simp only
 rw [zAh h]
 simp only [aW]
 cases ha:gF r
 ·rw [Yg ha]
  simp only [Bool.not_false,eU,EOK]
  exact zHs (x:=(s,psn s r,(b:Int),0,0,l++t.enc l.length,())) (top:=t.top l.length) hF
 simp only [Bool.not_true,bX]
 cases r with
 | nil=>cases ha
 | cons c r1 =>
  have hl1:=uZ h
  simp only [List.length_cons] at hl1
  have hg:bK 0 s (psn s (c :: r1))=c:=by have:=Zz h (j:=0) (c:=c) (d:=0) rfl; simpa using this
  have hs1:r1 <:+ s:=(List.suffix_cons c r1).trans h
  have hw:IntKind.wrap .i64 (psn s (c :: r1)+1)=psn s r1:=Dz h hs (k:=1) (by simp)
  rw [aF (jI (by unfold psn; omega) (by unfold psn; simp only [List.length_cons]; omega)),hg,hw]
  unfold nZ
  simp only [gF,Bool.or_eq_true,beq_iff_eq] at ha
  by_cases h43:c=43
  ·subst h43
   rw [aO (by rfl)]
   exact zDr hs1 hl hF
  rw [aJ (by rw [beq_eq_false_iff_ne]; intro e; exact h43 (UInt8.toNat_inj.1 (by simpa using Int.ofNat_inj.1 e)))]
  have n43:(c == 43)=false:=by simpa using h43
  by_cases h63:c=63
  ·subst h63
   rw [aO (by rfl)]
   exact zDr hs1 hl hF
  rw [aJ (by rw [beq_eq_false_iff_ne]; intro e; exact h63 (UInt8.toNat_inj.1 (by simpa using Int.ofNat_inj.1 e)))]
  have n63:(c == 63)=false:=by simpa using h63
  by_cases zTh:c=123
  ·subst zTh
   rw [aO (by rfl),aF (zPu hs1),Qp,Kg hs1]
   have hc:=zQb r1
   unfold strings_Cut
   rw [aF (by simp; omega)]
   simp only [aW]
   rw [zYv (by have:=(zKa 125 r1).1; omega)]
   simp only [aW]
   have e42:((123:UInt8) == 42)=false:=rfl
   have e43:((123:UInt8) == 43)=false:=rfl
   have e63:((123:UInt8) == 63)=false:=rfl
   have zTi:((123:UInt8) == 123)=true:=rfl
   simp only [e42,e43,e63,zTi,cond_false,cond_true]
   cases ht:qK r1 with
   | none =>
    rw [ht] at hc
    simp only at hc ⊢
    have Kl:∀ x:Er0,EOK s l st0 F (.er 43 (r1.length+1)) (ob (aN n (43,psn s (123 :: r1),s,psn s r1,(b:Int),0,0,l++t.enc l.length,())) fun y23=>some (y23.1,y23.2.1,y23.2.2.1,y23.2.2.2.1,y23.2.2.2.2.1,y23.2.2.2.2.2.1,y23.2.2.2.2.2.2.1,st0++[F],())):=fun _=>⟨_,_,_,_,rfl⟩
    rcases hc with hc | hc
    ·rw [aO (by rw [hc]; rfl)]
     exact Kl ([],0,0,0,0,[],[],())
    ·rw [hc]
     cases (Go.Lib.cut r1 [125]).2.2
     ·rw [aO (by rfl)]
      exact Kl ([],0,0,0,0,[],[],())
     ·rw [aJ (by rfl),aO (by rfl)]
      exact Kl ([],0,0,0,0,[],[],())
   | some x =>
    obtain ⟨lo,hi,r2⟩:=x
    rw [ht] at hc
    simp only at hc ⊢
    obtain ⟨c1,c2,c3,c4⟩:=hc
    rw [c1,c2]
    simp only [Bool.not_true,bX]
    have hk:IntKind.wrap .i64 (((Go.Lib.cut r1 [125]).1.length:Int)+1)=(((Go.Lib.cut r1 [125]).1.length+1:Nat):Int):=dY (by omega) (by omega)
    rw [hk,Dz hs1 hs c4,<- c3]
    exact zDr (by rw [c3]; exact zPt hs1 _) hl hF
  ·rw [aJ (by rw [beq_eq_false_iff_ne]; intro e; exact zTh (UInt8.toNat_inj.1 (by simpa using Int.ofNat_inj.1 e)))]
   have h42:c=42:=by
    rcases ha with ((ha | ha) | ha) | ha
    ·exact ha
    ·exact absurd ha h43
    ·exact absurd ha h63
    ·exact absurd ha zTh
   subst h42
   exact zDr hs1 hl hF
end
end Go.Dec
namespace Go.Dec
theorem Fb {α:Type} (x:Option α):(ob x fun y=>some y)=x:=by cases x <;> rfl
theorem neI {c k:UInt8} (h:c ≠ k):((c.toNat:Int) == (k.toNat:Int))=false:=by
 rw [beq_eq_false_iff_ne]; intro e; exact h (UInt8.toNat_inj.1 (Int.ofNat_inj.1 e))
abbrev eSt (s r:List UInt8) (b:Nat) (l:List Nd) (st:List Fr):Er0:=(s,psn s r,(b:Int),0,0,l,st,())
def tT (s:List UInt8) (c k:Nat) (e:Option (Bool × Er0)):Prop:=∃ (a b':Int) (l':List Nd) (st':List Fr),e=some (false,s,a,b',(c:Int),((s.length - k:Nat):Int),l',st',())
section
variable {n:Nat} {s r:List UInt8} {b:Nat} {l:List Nd} {st0:List Fr} {F:Fr} {rows:List UInt8->Nat->jL (List (List Pt))}
theorem zHt {t:Pt} {nd:Nd} (ht:t.enc l.length=[nd]) (hz:t.sz=1) (h:r <:+ s) (hs:s.length < 1000000) (hl:l.length < 800000) (hF:F.2.2.2.1.length < 1000000) :
  EOK s l st0 F (nZ t r b) (eX n (((l.length:Nat):Int),s,psn s r,(b:Int),0,0,l++[nd],st0++[F],())):=by
 have:=zQc (n:=n) (b:=b) (l:=l) (st0:=st0) (F:=F) (t:=t) h hs (by omega) hF
 rw [ht,show t.top l.length=((l.length:Nat):Int) by unfold Pt.top; rw [hz]; omega] at this
 exact this
theorem Il {p:Nat->Bool} (h:r <:+ s) (hs:s.length < 1000000) (hl:l.length < 800000) (hF:F.2.2.2.1.length < 1000000) :
  EOK s l st0 F (nZ (.bytes p) r b) (dQ n (wd p,s,psn s r,(b:Int),0,0,l,st0++[F],())):=by
 unfold dQ
 simp only
 rw [Yh (by omega)]
 simp only [aW,Fb]
 exact zHt rfl rfl h hs hl hF
theorem zT {c:UInt8} {r1:List UInt8} (h:c :: r1 <:+ s) (hs:s.length < 1000000) :
  inB (psn s (c :: r1)) s.length=true∧bK 0 s (psn s (c :: r1))=c∧r1 <:+ s∧IntKind.wrap .i64 (psn s (c :: r1)+1)=psn s r1∧decide (psn s (c :: r1) < (s.length:Int))=true:=by
 have hl:=uZ h
 simp only [List.length_cons] at hl
 refine ⟨jI (by unfold psn; omega) (by unfold psn; simp only [List.length_cons]; omega),?_,(List.suffix_cons c r1).trans h,Dz h hs (k:=1) (by simp),decide_eq_true (by unfold psn; simp only [List.length_cons]; omega)⟩
 have:=Zz h (j:=0) (c:=c) (d:=0) rfl; simpa using this
theorem zHu {c:UInt8} {r1:List UInt8} (hc:c=94∨c=36) (h:c :: r1 <:+ s) (hs:s.length < 1000000) (hl:l.length < 800000) (hF:F.2.2.2.1.length < 1000000) :
  EOK s l st0 F (lC rows (c :: r1) b) (iH n (s,psn s (c :: r1),(b:Int),0,0,l,st0++[F],())):=by
 obtain ⟨h1,h2,h3,h4,_⟩:=zT h hs
 unfold iH
 simp only
 rw [aF h1,h2,h4,zAh h3]
 simp only [aW]
 unfold lC xY
 simp only
 rcases hc with rfl | rfl
 ·rw [aJ (by rfl)]
  simp only [show ((94:UInt8) == 94)=true from rfl,cond_true]
  cases ha:gF r1
  ·simp only [bX,cond_false]
   rw [Yh (by omega)]
   simp only [aW,Fb]
   exact zHt rfl rfl h3 hs hl hF
  ·exact ⟨_,_,_,_,rfl⟩
 ·rw [aO (by rfl)]
  simp only [show ((36:UInt8) == 94)=false from rfl,show ((36:UInt8) == 36)=true from rfl,cond_true,cond_false]
  cases ha:gF r1
  ·simp only [bX,cond_false]
   rw [Yh (by omega)]
   simp only [aW,Fb]
   exact zHt rfl rfl h3 hs hl hF
  ·exact ⟨_,_,_,_,rfl⟩
theorem Qr {c:UInt8} {r1:List UInt8} (hc:gF (c :: r1)=true) :
  EOK s l st0 F (lC rows (c :: r1) b) (gV n (s,psn s (c :: r1),(b:Int),0,0,l,st0++[F],())):=by
 unfold lC xY
 simp only
 have e1:(c == 94)=false:=by
  rw [beq_eq_false_iff_ne]; rintro rfl; simp [gF] at hc
 have e2:(c == 36)=false:=by
  rw [beq_eq_false_iff_ne]; rintro rfl; simp [gF] at hc
 rw [e1,e2,hc]
 exact ⟨_,_,_,_,rfl⟩
theorem zZy {r1:List UInt8} (hn:5 <= n) (h:46 :: r1 <:+ s) (hs:s.length < 1000000) (hl:l.length < 800000) (hF:F.2.2.2.1.length < 1000000) :
  EOK s l st0 F (lC rows (46 :: r1) b) (mH n (s,psn s (46 :: r1),(b:Int),0,0,l,st0++[F],())):=by
 obtain ⟨h1,h2,h3,h4,_⟩:=zT h hs
 unfold mH
 simp only
 rw [h4,<- nM,Xy hn]
 simp only [aW,Fb]
 exact Il h3 hs hl hF
theorem zZa {r1:List UInt8} (hn:s.length+500 <= n) (h:91 :: r1 <:+ s) (hs:s.length < 900000) (hl:l.length < 800000) (hF:F.2.2.2.1.length < 1000000) :
  EOK s l st0 F (lC rows (91 :: r1) b) (kX n (s,psn s (91 :: r1),(b:Int),0,0,l,st0++[F],())):=by
 have hle:=uZ h
 unfold kX
 simp only
 rw [aF (zPu h),Qp,Kg h,Zy (by omega) (by omega) (by omega)]
 simp only [aW]
 unfold lC xY
 simp only [show ((91:UInt8) == 94)=false from rfl,show ((91:UInt8) == 36)=false from rfl,show gF (91 :: r1)=false from rfl,show ((91:UInt8) == 46)=false from rfl,show ((91:UInt8) == 91)=true from rfl,cond_true,cond_false]
 cases hb:Ke (91 :: r1) with
 | none =>
  simp only [zSw]
  rw [aO (by rfl)]
  exact ⟨_,_,_,_,rfl⟩
 | some x =>
  obtain ⟨p,k⟩:=x
  have hk:=zGw hb
  simp only [zSw]
  rw [aJ (by rfl),Dz h (by omega) hk.2]
  simp only [Fb]
  exact Il (zPt h k) (by omega) hl hF
theorem zNq:((List.range 256).all fun i=>decide (Go.Lib.indexByte wJ (UInt8.ofNat i) ≥ 0) == wJ.contains (UInt8.ofNat i))=true:=by decide +kernel
theorem zQd {r1:List UInt8} (hn:300 <= n) (h:92 :: r1 <:+ s) (hs:s.length < 900000) (hl:l.length < 800000) (hF:F.2.2.2.1.length < 1000000) :
  EOK s l st0 F (lC rows (92 :: r1) b) (iY n (s,psn s (92 :: r1),(b:Int),0,0,l,st0++[F],())):=by
 obtain ⟨h1,h2,h3,h4,_⟩:=zT h (by omega)
 have hle:=uZ h
 unfold iY
 simp only
 rw [h4,zVu h3]
 unfold lC xY
 simp only [show ((92:UInt8) == 94)=false from rfl,show ((92:UInt8) == 36)=false from rfl,show gF (92 :: r1)=false from rfl,show ((92:UInt8) == 46)=false from rfl,show ((92:UInt8) == 91)=false from rfl,show ((92:UInt8) == 40)=false from rfl,show ((92:UInt8) == 92)=true from rfl,cond_true,cond_false]
 cases r1 with
 | nil=>exact ⟨_,_,_,_,rfl⟩
 | cons d r2 =>
  simp only [List.isEmpty_cons,bX]
  obtain ⟨g1,g2,g3,_,_⟩:=zT h3 (by omega)
  have hw:IntKind.wrap .i64 (psn s (92 :: d :: r2)+2)=psn s r2:=Dz h (by omega) (k:=2) (by simp)
  rw [aF g1,g2,hw]
  by_cases zTj:d=110
  ·subst zTj
   rw [aO (by rfl),Oq _ (by simp; omega) (by simp),zPv]
   simp only [show ((110:UInt8) == 110)=true from rfl,cond_true,aW,Fb]
   exact Il g3 (by omega) hl hF
  rw [aJ (show ((d.toNat:Int) == 110)=false from neI (k:=110) zTj),show (d == 110)=false by simpa using zTj]
  simp only [cond_false,strings_IndexByte,aW]
  have hi:=Ie zNq d.toNat_lt
  rw [zDp,beq_iff_eq] at hi
  rw [show ((d.toNat:Int)).toNat.toUInt8=d from zDp d]
  have hi':decide (Go.Lib.indexByte [46,91,92,40,41,42,43,63,123,125,124,94,36,47] d ≥ 0)=wJ.contains d:=hi
  rw [hi']
  cases wJ.contains d
  ·simp only [bX,cond_false]
   by_cases h1:49 <= d.toNat
   ·rw [aO (by simp; omega)]
    by_cases h2:d.toNat <= 57
    ·rw [aO (by simp; omega),decide_eq_true h1,decide_eq_true h2]
     exact ⟨_,_,_,_,rfl⟩
    ·rw [aJ (by simp; omega),decide_eq_false h2,Bool.and_false]
     exact ⟨_,_,_,_,rfl⟩
   ·rw [aJ (by simp; omega),decide_eq_false h1]
    exact ⟨_,_,_,_,rfl⟩
  ·simp only [eU,cond_true]
   rw [xX hn d.toNat_lt d.toNat_lt,zYh]
   simp only [aW,Fb]
   exact Il g3 (by omega) hl hF
def GOK (n:Nat) (s:List UInt8) (l:List Nd) (st0:List Fr) (F:Fr) (o:jL Pt) (m k0:Nat) (e:Option (Bool × Er0)):Prop:=match o with
 | .ok t r b=>∃ m',m+r.length <= m'+k0∧e=fix (aG n) m' (eSt s r b (l++t.enc l.length) (st0++[zHr F (t.top l.length)]))
 | .er c k=>tT s c k e
theorem sN {o:jL Pt} {e:Option (Bool × Er0)} {m k0:Nat} (h:EOK s l st0 F o e) (hk:∀ t r b,o=.ok t r b->r.length+1 <= k0) :
  GOK n s l st0 F o (m+1) k0 (ob e fun y=>br (!y.1) (some (false,y.2)) (fix (aG n) m y.2)):=by
 cases o with
 | ok t r b =>
  simp only [EOK] at h
  rw [h]
  refine ⟨m,by have:=hk t r b rfl; omega,?_⟩
  simp only [aW,Bool.not_true,bX]
 | er c k =>
  obtain ⟨a,b',l',st',h⟩:=h
  rw [h]
  exact ⟨a,b',l',st',rfl⟩
theorem zQe {m:Nat} {c:UInt8} {r1:List UInt8} (hn:s.length+500 <= n) (h:c :: r1 <:+ s) (hs:s.length < 900000) (hl:l.length < 800000) (hF:F.2.2.2.1.length < 1000000)
  (h40:c ≠ 40) (h41:c ≠ 41) (yBs:c ≠ 124) (hlen:∀ t r b',lC rows (c :: r1) b=.ok t r b'->r.length+1 <= r1.length+1) :
  GOK n s l st0 F (lC rows (c :: r1) b) (m+1) (r1.length+1) (fix (aG n) (m+1) (eSt s (c :: r1) b l (st0++[F]))):=by
 obtain ⟨h1,h2,h3,h4,h5⟩:=zT h (by omega)
 rw [fK (by omega),Nat.add_sub_cancel]
 unfold aG
 simp only
 rw [aO h5,aF h1,h2]
 by_cases k94:c=94
 ·subst k94; exact sN (zHu (Or.inl rfl) h (by omega) hl hF) hlen
 by_cases k36:c=36
 ·subst k36; exact sN (zHu (Or.inr rfl) h (by omega) hl hF) hlen
 by_cases k42:c=42
 ·subst k42; exact sN (Qr (n:=n) rfl) hlen
 by_cases k43:c=43
 ·subst k43; exact sN (Qr (n:=n) rfl) hlen
 by_cases k63:c=63
 ·subst k63; exact sN (Qr (n:=n) rfl) hlen
 by_cases zTk:c=123
 ·subst zTk; exact sN (Qr (n:=n) rfl) hlen
 by_cases k46:c=46
 ·subst k46; exact sN (zZy (by omega) h (by omega) hl hF) hlen
 by_cases k91:c=91
 ·subst k91; exact sN (zZa hn h hs hl hF) hlen
 by_cases k92:c=92
 ·subst k92; exact sN (zQd (by omega) h hs hl hF) hlen
 have e94:((c.toNat:Int) == 94)=false:=neI (k:=94) k94
 have e36:((c.toNat:Int) == 36)=false:=neI (k:=36) k36
 have e42:((c.toNat:Int) == 42)=false:=neI (k:=42) k42
 have e43:((c.toNat:Int) == 43)=false:=neI (k:=43) k43
 have e63:((c.toNat:Int) == 63)=false:=neI (k:=63) k63
 have zTi:((c.toNat:Int) == 123)=false:=neI (k:=123) zTk
 have e46:((c.toNat:Int) == 46)=false:=neI (k:=46) k46
 have e91:((c.toNat:Int) == 91)=false:=neI (k:=91) k91
 have e92:((c.toNat:Int) == 92)=false:=neI (k:=92) k92
 have yBt:((c.toNat:Int) == 124)=false:=neI (k:=124) yBs
 have e40:((c.toNat:Int) == 40)=false:=neI (k:=40) h40
 have e41:((c.toNat:Int) == 41)=false:=neI (k:=41) h41
 rw [aJ (by rw [e94,e36,e42,e43,e63,zTi,e46,e91,e92,yBt,e40,e41]; rfl),h4]
 have hle:=uZ h
 simp only [List.length_cons] at hle
 have hw2:IntKind.wrap .i64 (psn s r1 - 1)=psn s (c :: r1):=by
  rw [dY (by unfold psn; omega) (by unfold psn; omega)]; unfold psn; simp only [List.length_cons]; omega
 rw [hw2,aF (by unfold psn; simp only [List.length_cons]; simp; omega)]
 have ht:(s.take (psn s r1).toNat).drop (psn s (c :: r1)).toNat=[c]:=take_at h (k:=1) (by simp)
 rw [ht,Oq _ (by simp; omega) (by simp),zPv]
 simp only [aW]
 have hit:lC rows (c :: r1) b=nZ (.bytes (Gm c)) r1 b:=by
  unfold lC xY
  have f:∀ k:UInt8,c ≠ k->(c == k)=false:=fun k h=>by simpa using h
  simp only [gF,f 94 k94,f 36 k36,f 42 k42,f 43 k43,f 63 k63,f 123 zTk,f 46 k46,f 91 k91,f 92 k92,f 40 h40,cond_false,Bool.or_false]
 rw [hit] at hlen ⊢
 exact sN (Il h3 (by omega) hl hF) hlen
end
end Go.Dec
namespace Go.Dec
theorem zCc (mk:Pt->Pt->Pt):∀ (pre:List Pt) (t:Pt),oC mk (pre++[t])=pre.foldr mk t
 | [],t=>rfl
 | [u],t=>rfl
 | u :: v :: pre,t=>by
  have:=zCc mk (v :: pre) t
  simp only [List.cons_append,oC,List.foldr_cons] at this ⊢
  rw [this]
theorem Sd:∀ (a b:List Pt) (o:Nat),fZ o (a++b)=fZ o a++fZ (o+szA a) b
 | [],b,o=>by simp [fZ,szA]
 | t :: a,b,o=>by simp [fZ,szA,Sd a b,Nat.add_assoc]
structure Joins (mk:Pt->Pt->Pt) (kind:Int):Prop where
 sz:∀ a b,(mk a b).sz=a.sz+b.sz+1
 enc:∀ a b o,(mk a b).enc o=a.enc o++b.enc (o+a.sz)++[(kind,[0,0,0,0],a.top o,b.top (o+a.sz),0,0,0,())]
theorem zQf:Joins .cat 4:=⟨fun _ _=>rfl,fun _ _ _=>rfl⟩
theorem zCd:Joins .alt 5:=⟨fun _ _=>rfl,fun _ _ _=>rfl⟩
section
variable {n:Nat} {s r:List UInt8} {l:List Nd} {st0:List Fr} {F:Fr}
theorem zZb {at' k a c mi ma nn b e w:Int} {v:List Int} {q:Value} (hl:l.length < 1000000):fF n (k,v,a,c,mi,ma,nn,s,at',b,q,e,w,l,())=some (((l.length:Nat):Int),s,at',b,q,e,w,l++[(k,v,a,c,mi,ma,nn,())],()):=by
 unfold fF
 simp only
 rw [aF (by simp [room]; omega)]
 simp only [List.length_append,List.length_cons,List.length_nil]
 rw [dY (by omega) (by omega)]
 congr 2; omega
theorem zNr {mk:Pt->Pt->Pt} {kind:Int} (hj:Joins mk kind) {at' b e w:Int} {q:Value} {ts:List Pt} (hl:l.length+szL ts < 900000):∀ (k m:Nat) (pre suf:List Pt) (u:Pt),pre.length=k->ts=pre++suf->szA pre+u.sz+pre.length <= szL ts->k < m ->
  fix (eY n) m (kind,u.top (l.length+szA pre),(k:Int) - 1,s,at',b,q,e,w,jK l.length ts,l++fZ l.length pre++u.enc (l.length+szA pre),()) =
   some ((pre.foldr mk u).top l.length,s,at',b,q,e,w,jK l.length ts,l++(pre.foldr mk u).enc l.length,()):=by
 intro k
 induction k with
 | zero =>
  intro m pre suf u hk hts hsz hm
  have:pre=[]:=List.eq_nil_of_length_eq_zero hk
  subst this
  rw [fK hm,eY]
  simp only
  rw [aJ (by simp)]
  simp [fZ,szA]
 | succ k ih =>
  intro m pre suf u hk hts hsz hm
  obtain ⟨pre',t,rfl⟩:∃ pre' t,pre=pre'++[t]:=by
   rcases List.eq_nil_or_concat pre with rfl | ⟨p,t,rfl⟩
   ·simp at hk
   ·exact ⟨p,t,by simp⟩
  have hk':pre'.length=k:=by simpa using hk
  have zTl:ts=pre'++t :: suf:=by rw [hts]; simp
  have hat:=zGy pre' t suf l.length 0
  rw [<- zTl,hk'] at hat
  have hlen:(jK l.length ts).length=ts.length:=wG _ _
  have htl:k < ts.length:=by rw [zTl]; simp; omega
  rw [fK (by omega),eY]
  simp only
  rw [show ((k+1:Nat):Int) - 1=(k:Int) by omega]
  rw [aO (by simp),hlen,aF (by rw [wX htl]; simp),Int.toNat_natCast,Nat.zero_add,aF (by simp; omega),show Ty.dflt (.int .i64)=(0:Int) from rfl,hat]
  rw [tQ] at hsz
  simp only [szA,List.length_append,List.length_cons,List.length_nil] at hsz
  rw [zZb (by simp only [List.length_append,oM,tQ,Pt.eT,szA]; omega)]
  simp only [aW]
  rw [dY (by omega) (by omega)]
  have hc:=ih (m - 1) pre' (t :: suf) (mk t u) hk' zTl (by rw [hj.sz]; omega) (by omega)
  have e1:(((l++fZ l.length (pre'++[t])++u.enc (l.length+szA (pre'++[t]))).length:Nat):Int)=(mk t u).top (l.length+szA pre'):=by
   simp only [List.length_append,oM,tQ,Pt.eT,szA,Pt.top,hj.sz]; omega
  have e2:l++fZ l.length (pre'++[t])++u.enc (l.length+szA (pre'++[t]))++[(kind,[0,0,0,0],t.top (l.length+szA pre'),u.top (l.length+szA (pre'++[t])),0,0,0,())]=l++fZ l.length pre'++(mk t u).enc (l.length+szA pre'):=by
   simp only [Ea,tQ,szA,hj.enc,List.append_assoc,Nat.add_zero,Nat.add_assoc]
  rw [e1,e2,hc,List.foldr_append]; rfl
theorem zAk {mk:Pt->Pt->Pt} {kind:Int} (hj:Joins mk kind) {at' b e w:Int} {ts:List Pt} (hne:ts ≠ []) (hn:ts.length+10 <= n) (hl:l.length+szL ts < 900000) :
  dN n (kind,s,at',b,e,w,jK l.length ts,l++fZ l.length ts,())=some ((oC mk ts).top l.length,s,at',b,e,w,jK l.length ts,l++(oC mk ts).enc l.length,()):=by
 obtain ⟨pre,t,rfl⟩:∃ pre t,ts=pre++[t]:=by
  rcases List.eq_nil_or_concat ts with rfl | ⟨p,t,rfl⟩
  ·exact absurd rfl hne
  ·exact ⟨p,t,by simp⟩
 have hsl:=Ii (pre++[t])
 have hat:=zGy pre t [] l.length 0
 have hlen:(pre++[t]).length=pre.length+1:=by simp
 unfold dN kF
 simp only
 rw [wG,hlen]
 rw [hlen] at hn hsl
 rw [dY (x:=((pre.length+1:Nat):Int) - 1) (by omega) (by omega),dY (by omega) (by omega)]
 rw [show ((pre.length+1:Nat):Int) - 1=(pre.length:Int) by omega,show ((pre.length+1:Nat):Int) - 2=(pre.length:Int) - 1 by omega]
 rw [aF (by rw [wX (by omega)]; simp),Int.toNat_natCast,Nat.zero_add,aF (by simp),show Ty.dflt (.int .i64)=(0:Int) from rfl,hat]
 have hsz:szA (pre++[t])=szA pre+t.sz:=by rw [tQ]; rfl
 have hc:=zNr (n:=n) (s:=s) (l:=l) hj (at':=at') (b:=b) (e:=e) (w:=w) (q:=Value.nilFunc) (ts:=pre++[t]) hl pre.length n pre [t] t rfl rfl (by omega) (by omega)
 have e:l++fZ l.length (pre++[t])=l++fZ l.length pre++t.enc (l.length+szA pre):=by rw [Ea,List.append_assoc]
 rw [e,hc,zCc]
def frm (o:Nat) (bg nn:Int) (rs:List (List Pt)) (ts:List Pt):Fr:=(bg,nn,jK o (rs.map gL),jK (o+szA (rs.map gL)) ts,())
abbrev stF (s r:List UInt8) (b:Nat) (l0:List Nd) (st0:List Fr) (bg nn:Int) (rs:List (List Pt)) (ts:List Pt):Er0 :=
 eSt s r b (l0++fZ l0.length (rs.map gL++ts)) (st0++[frm l0.length bg nn rs ts])
theorem Ec:∀ {rs:List (List Pt)},(∀ ts ∈ rs,ts ≠ [])->szA (rs.map gL)+rs.length <= iE rs
 | [],_=>aR _
 | ts :: rs,h=>by
  have h1:=Ec (rs:=rs) (fun x hx=>h x (by simp [hx]))
  have h2:=h ts (by simp)
  cases ts with
  | nil=>exact absurd rfl h2
  | cons t ts =>
   have:=zAe t ts
   simp only [List.map_cons,szA,iE,List.length_cons] at h1 ⊢
   omega
variable {b:Nat} {bg nn:Int} {rs:List (List Pt)} {ts:List Pt}
theorem zTm {t:Pt}:zHr (frm l.length bg nn rs ts) (t.top (l++fZ l.length (rs.map gL++ts)).length)=frm l.length bg nn rs (ts++[t]):=by
 unfold zHr frm
 simp only
 rw [Oy,List.length_append,oM]
 congr 6
 rw [tQ,Nat.add_assoc]
end
end Go.Dec
