/- Part of a proof over this seat: a library of my own, and what it says of this seat. No statement is proved here. -/
import Derived.Test.YthhbdkdofhhoeaaGreatDoorPartBS
import Derived.Test.YthhbdkdofhhoeaaGreatDoorPartBQ
import Derived.Test.YthhbdkdofhhoeaaGreatDoorPartBR
namespace Go.Dec
def Nb (ts:List Pt) (w:W4):W4:=ts.foldl (fun w t=>fG t w) w
theorem zQg {p:Nat->Bool} {i:Nat} (hi:i < 256) (h:p i=true):fJ p=false:=by
 cases he:fJ p
 ·rfl
 ·have:=Om he hi
  rw [h] at this; simp at this
theorem yGr {r:List UInt8} {p:Nat->Bool} {k:Nat} (h:Bq r=some (p,k)):fJ p=false:=by
 unfold Bq at h
 cases h1:[91].isPrefixOf r <;> rw [h1] at h <;> simp only [cond_true,cond_false] at h
 ·simp at h
 ·cases h3:oJ (r.length+1) true (fun _=>false) (r.drop (bif [94].isPrefixOf (r.drop 1) then 2 else 1)) with
  | none=>rw [h3] at h; simp at h
  | some x =>
   obtain ⟨q,m⟩:=x
   rw [h3] at h
   simp only at h
   cases h4:fJ (bif [94].isPrefixOf (r.drop 1) then (fun j=>!q j) else q) <;> rw [h4] at h <;> simp at h
   rw [<- h.1]; simpa using h4
theorem zIc (c:UInt8):fJ (Ga c)=false:=zQg c.toNat_lt (by simp [Ga])
def Wv (t:Pt):Prop:=jS t=true∧nM t=true∧mY t=true∧t.kind ≠ 4∧t.kind ≠ 5
def zQh (t:Pt):Prop:=jS t=true∧nM t=true∧mY t=true∧(t.kind=1∨t.kind=7∨t.kind=8)
def yGs (t:Pt):Prop:=jS t=true∧nM t=true∧mY t=true∧t.kind ≠ 5
theorem zQh.item {t:Pt} (h:zQh t):Wv t:=⟨h.1,h.2.1,h.2.2.1,by rcases h.2.2.2 with h | h | h <;> omega,by rcases h.2.2.2 with h | h | h <;> omega⟩
theorem yKm (t:Pt) (o:Nat):∀ nd ∈ t.enc o,Ws nd:=by
 intro nd h
 rw [<- zO] at h
 obtain ⟨v,_,rfl⟩:=List.mem_map.1 h
 cases v with
 | bytes p=>exact ⟨p,rfl⟩
 | _=>exact ⟨fun _=>false,pV.symm⟩
theorem yGt {n:Nat} {t:Pt} (hn:200 <= n) (h:Yf t):tJ n (t.enc 0)=some true:=by
 rcases zZx (n:=n) (l:=t.enc 0) hn (yKm t 0) with ⟨_,_,_,h3⟩ | ⟨h1,_⟩
 ·exact h3
 ·exact absurd rfl (h1 t h)
theorem yGu {n:Nat}:tJ n []=some false:=rfl
theorem yKn {n:Nat} {l:List Nd} (hl:l.length < n) (hl2:l.length < 1000000):Uq n l=some l:=by
 unfold Uq
 simp only
 have key:∀ k i m,i+k=l.length->k < m->fix (uP n) m (l,(i:Int),l.take i,())=some l:=by
  intro k
  induction k with
  | zero =>
   intro i m hi hm
   rw [dL hm,uP]
   simp only
   rw [aF (by simp; omega),List.take_of_length_le (by omega)]
  | succ k ih =>
   intro i m hi hm
   have hil:i < l.length:=by omega
   rw [dL (by omega),uP]
   simp only
   rw [aK (by simp; omega),aD (qW hil),qN hil,aD (by simp [room]; omega),bD (by omega) (by omega),show (i:Int)+1=((i+1:Nat):Int) by omega]
   have:=ih (i+1) (m - 1) (by omega) (by omega)
   rw [Wu (List.getElem?_eq_getElem hil)] at this
   exact this
 exact key l.length 0 n (by omega) (by omega)
theorem zJx {n:Nat} {l:List Nd} (hl:l.length < n) (hl2:l.length < 1000000):Ao n (l,l)=some true:=by
 unfold Ao
 simp only
 rw [aF (by simp)]
 refine Bl (fun i=>(l,l,(i:Int),())) (N:=l.length) ?_ ?_ l.length 0 n (by omega) (by omega)
 ·intro i hi g
  unfold yQ
  simp only
  rw [aK (by simp; omega),aD (qW hi),aD (qW hi),yKa rfl,aF (by rfl),bD (by omega) (by omega)]
  rfl
 ·intro g
  unfold yQ
  simp only
  rw [aF (by simp)]
end Go.Dec
