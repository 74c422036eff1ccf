/- Part of a proof over this seat: a library of my own, and what it says of this seat. No statement is proved here. -/
import Derived.Test.YthhbdkdofhhoeaaGreatDoorPartBS
import Derived.Test.YthhbdkdofhhoeaaGreatDoorPartBQ
import Derived.Test.YthhbdkdofhhoeaaGreatDoorPartBR
namespace Go.Dec
def Gn (ts:List Pt) (w:W4):W4:=ts.foldl (fun w t=>dS t w) w
theorem zHh {p:Nat->Bool} {i:Nat} (hi:i < 256) (h:p i=true):kV p=false:=by
 cases he:kV p
 ·rfl
 ·have:=Ie he hi
  rw [h] at this; simp at this
theorem zVw {r:List UInt8} {p:Nat->Bool} {k:Nat} (h:Ke r=some (p,k)):kV p=false:=by
 unfold Ke at h
 cases h1:[91].isPrefixOf r <;> rw [h1] at h <;> simp only [cond_true,cond_false] at h
 ·simp at h
 ·cases h3:zA (r.length+1) true (fun _=>false) (r.drop (bif [94].isPrefixOf (r.drop 1) then 2 else 1)) with
  | none=>rw [h3] at h; simp at h
  | some x =>
   obtain ⟨q,m⟩:=x
   rw [h3] at h
   simp only at h
   cases h4:kV (bif [94].isPrefixOf (r.drop 1) then (fun j=>!q j) else q) <;> rw [h4] at h <;> simp at h
   rw [<- h.1]; simpa using h4
theorem zAc (c:UInt8):kV (Gm c)=false:=zHh c.toNat_lt (by simp [Gm])
def Oz (t:Pt):Prop:=iV t=true∧lX t=true∧lJ t=true∧t.kind ≠ 4∧t.kind ≠ 5
def zHi (t:Pt):Prop:=iV t=true∧lX t=true∧lJ t=true∧(t.kind=1∨t.kind=7∨t.kind=8)
def zVx (t:Pt):Prop:=iV t=true∧lX t=true∧lJ t=true∧t.kind ≠ 5
theorem zHi.item {t:Pt} (h:zHi t):Oz t:=⟨h.1,h.2.1,h.2.2.1,by rcases h.2.2.2 with h | h | h <;> omega,by rcases h.2.2.2 with h | h | h <;> omega⟩
theorem zYt (t:Pt) (o:Nat):∀ nd ∈ t.enc o,Uw nd:=by
 intro nd h
 rw [<- wH] at h
 obtain ⟨v,_,rfl⟩:=List.mem_map.1 h
 cases v with
 | bytes p=>exact ⟨p,rfl⟩
 | _=>exact ⟨fun _=>false,nM.symm⟩
end Go.Dec
