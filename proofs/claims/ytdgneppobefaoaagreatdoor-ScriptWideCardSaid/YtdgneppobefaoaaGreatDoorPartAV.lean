/- Part of a proof over this seat: a library of my own, and what it says of this seat. No statement is proved here. -/
import Derived.Test.YtdgneppobefaoaaGreatDoorPartAU
namespace Go.Ce
theorem Go.patch {lo:Nat} {β β':Bt} {A A':W} {w w1 w2 w':World} (hW:aX lo β A w) (h:Go lo β A w1 β' A' w2) (h1:w1.heap.size=w.heap.size+1) (ho:∀ b,b < w.heap.size->w1.heap[b]?=w.heap[b]?)
  (h1o:w1.os=w.os) (h1t:w1.tape=w.tape) (h1u:w1.output=w.output)
  (hs:w2.heap.size <= w'.heap.size) (hk:∀ b,b < w2.heap.size->b ≠ w.heap.size->w'.heap[b]?=w2.heap[b]?) (h2o:w'.os=w2.os) (h2t:w'.tape=w2.tape) (h2u:w'.output=w2.output):Go lo β A w β' A' w':=by
 have hown:∀ b,Own lo β A b->b < w.heap.size:=fun b ⟨id,B,o,n,_,_,hb⟩=>hW.here id b o n hb
 have hne:∀ id b o n,β' id=some (b,o,n)->b ≠ w.heap.size:=fun id b o n hb=>by
  rcases aY id A.nx with hi | hi
  ·have:=hW.here id b o n (h.old' id _ hi hb)
   omega
  ·rcases h.fresh id b o n hi hb with h3 | h3
   ·omega
   ·have:=hown b h3
    omega
 have hsz:=h.size
 refine ⟨⟨h.rel.lo_le,fun id B hB=>?_,h.rel.nx,fun id b o n hb=>?_,h.rel.sep,h.rel.side⟩,h.ext,h.nx,by omega,fun b hb hn=>?_,h.back,h.keep,fun id b o n hi hb=>?_,h.old',h2o.trans (h.os.trans h1o),h2t.trans (h.tape.trans h1t),h2u.trans (h.output.trans h1u)⟩
 ·obtain ⟨b,o,n,h3,h4,h5⟩:=h.rel.blk id B hB
  exact ⟨b,o,n,h3,by omega,h5.mono (.refl _) (hk b h4 (hne id b o n h3))⟩
 ·have:=h.rel.here id b o n hb
  omega
 ·rw [hk b (by omega) (by omega),h.old b (by omega) hn,ho b hb]
 ·rcases h.fresh id b o n hi hb with h3 | h3
  ·exact .inl (by omega)
  ·exact .inr h3
theorem Go.own_block {lo:Nat} {β β':Bt} {A A':W} {w w1 w2:World} (hW:aX lo β A w) (h:Go lo β A w1 β' A' w2) (h1:w1.heap.size=w.heap.size+1):w2.heap[w.heap.size]?=w1.heap[w.heap.size]? :=
 h.old _ (by omega) fun ⟨id,B,o,n,_,_,hb⟩=>by
  have:=hW.here id _ o n hb
  omega
end Go.Ce
