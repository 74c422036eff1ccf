/- Part of a proof over this seat: a library of my own, and what it says of this seat. No statement is proved here. -/
import Derived.Test.YtfpipcafiocdoaaGreatDoorPartBL
import Derived.Test.YtfpipcafiocdoaaGreatDoorPartBN
namespace Go.Dec
set_option linter.unusedSimpArgs false
abbrev WSt : Type:=List (List (List UInt8)) × Bool × Int × List (List UInt8) × List Int × List Int × Unit
def WGo (n : Nat) (s : List UInt8) (b : Nat) (x y : WSt) : Prop:=∃ k,k <= b ∧ ∀ m,fix (aP n) (m + k) (s,x) = fix (aP n) m (s,y)
theorem WGo.refl {n : Nat} {s : List UInt8} {b : Nat} (x : WSt) : WGo n s b x x:=⟨0,Nat.zero_le _,fun _ => rfl⟩
theorem WGo.trans {n : Nat} {s : List UInt8} {a b : Nat} {x y z : WSt} (h : WGo n s a x y) (h' : WGo n s b y z) : WGo n s (a + b) x z:=by
 obtain ⟨k,hk,h⟩:=h
 obtain ⟨j,hj,h'⟩:=h'
 exact ⟨j + k,by omega,fun m => by rw [<- Nat.add_assoc,h,h']⟩
theorem WGo.mono {n : Nat} {s : List UInt8} {a b : Nat} {x y : WSt} (h : WGo n s a x y) (hb : a <= b) : WGo n s b x y:=by
 obtain ⟨k,hk,h⟩:=h
 exact ⟨k,by omega,h⟩
theorem WGo.one {n : Nat} {s : List UInt8} {x y : WSt} (h : ∀ m,fix (aP n) (m + 1) (s,x) = fix (aP n) m (s,y)) : WGo n s 1 x y:=⟨1,Nat.le_refl _,h⟩
section
variable {n : Nat} {s : List UInt8} (hs : s.length <= 100000) {out : List (List (List UInt8))} {inn : Bool} {stage : List (List UInt8)} {beg word : List Int}
include hs
theorem Iu {pre rest : List UInt8} {c : UInt8} (hp : s = pre ++ c :: rest) (hc : c = 32 ∨ c = 9) (hst : stage.length <= 1000) :
  WGo n s 1 (out,inn,(pre.length : Int),stage,beg,word,()) (out,false,((pre.length + 1 : Nat) : Int),oV inn stage word,beg,[],()):=by
 refine .one fun m => ?_
 have hlen : s.length = pre.length + rest.length + 1:=by rw [hp]; simp; omega
 rw [vB,aP]
 simp only
 rw [bR (decide_eq_true (by omega)),aW (iP (by omega)),eG hp]
 have blank : bX n (fix (aP n) m) (s,(c.toNat : Int),true,out,inn,(pre.length : Int),stage,beg,word,()) = fix (aP n) m (s,out,false,((pre.length + 1 : Nat) : Int),oV inn stage word,beg,[],()):=by
  rw [bX]
  simp only
  rw [zOg,wI (by omega),gZ]
  simp only
  rw [jK (by omega) (by omega)]
  rfl
 rcases hc with rfl | rfl
 ·rw [bR (by rfl),nI,blank]
 ·rw [aS (by rfl),nI]
  exact blank
theorem zSv {pre rest : List UInt8} (hp : s = pre ++ 124 :: rest) (hst : stage.length <= 1000) (ho : out.length <= 1000) (hne : oV inn stage word ≠ []) :
  WGo n s 1 (out,inn,(pre.length : Int),stage,beg,word,()) (out ++ [oV inn stage word],false,((pre.length + 1 : Nat) : Int),[],beg,[],()):=by
 refine .one fun m => ?_
 have hlen : s.length = pre.length + rest.length + 1:=by rw [hp]; simp; omega
 rw [vB,aP]
 simp only
 rw [bR (decide_eq_true (by omega)),aW (iP (by omega)),eG hp,aS (by rfl),nI,show (((124 : UInt8).toNat : Int) == 9) = false from rfl,bX]
 simp only
 rw [Ci,bR (by rfl),wI (by omega),gZ]
 simp only
 have he : (if inn = true then stage ++ [fC word] else stage) = oV inn stage word:=rfl
 simp only [he]
 rw [aS (by simpa using hne),aW (by simp [room]; omega),jK (by omega) (by omega)]
 rfl
def xZ (c : UInt8) : Bool:=!((c.toNat : Int) == 32) && (!((c.toNat : Int) == 9) && (!((c.toNat : Int) == 124) && (!((c.toNat : Int) == 35) && (!decide (Go.Lib.indexByte [10,59,38,60,62,40,41,36,42,63,91,96] (c.toNat : Int).toNat.toUInt8 ≥ 0) && (!((c.toNat : Int) == 39) && (!((c.toNat : Int) == 34) && !((c.toNat : Int) == 92)))))))
omit hs in
theorem zFr : ∀ k : Fin 256,(!st k.val.toUInt8) = true -> xZ k.val.toUInt8 = true:=by decide +kernel
omit hs in
theorem zIw {c : UInt8} (h : st c = false) : xZ c = true:=by
 have:=zFr ⟨c.toNat,c.toNat_lt⟩
 simp only [Nat.toUInt8_eq,UInt8.ofNat_toNat] at this
 exact this (by rw [h]; rfl)
theorem zIx {pre rest : List UInt8} {c : UInt8} (hp : s = pre ++ c :: rest) (hc : xZ c = true) (hst : stage.length <= 1000) (hb : beg.length <= 1000) (hw : word.length <= 100000) :
  WGo n s 1 (out,inn,(pre.length : Int),stage,beg,word,()) (out,true,((pre.length + 1 : Nat) : Int),stage,iU (pre.length : Int) inn stage beg,word ++ [(c.toNat : Int)],()):=by
 refine .one fun m => ?_
 have hlen : s.length = pre.length + rest.length + 1:=by rw [hp]; simp; omega
 simp only [xZ,Bool.and_eq_true,Bool.not_eq_true'] at hc
 obtain ⟨h1,h2,h3,h4,h5,h6,h7,h8⟩:=hc
 have w1 : bT n (inn,(pre.length : Int),stage,beg,()) = some (true,(pre.length : Int),stage,iU (pre.length : Int) inn stage beg,()):=Dl (by omega)
 rw [vB,aP]
 simp only
 rw [bR (decide_eq_true (by omega)),aW (iP (by omega)),eG hp,aS h1,nI,h2,bX]
 simp only
 rw [Ci,aS h3,aS h4,Il,gZ,nI,h5,eH]
 simp only
 rw [Ci,aS h6,aS h7,aS h8,w1,gZ]
 simp only
 rw [aW (by simp [room]; omega),jK (by omega) (by omega)]
 rfl
theorem Dr {pre a rest : List UInt8} (hp : s = pre ++ 39 :: (a ++ 39 :: rest)) (ha : (39 : UInt8) ∉ a) (hst : stage.length <= 1000) (hb : beg.length <= 1000) (hw : word.length <= 100000) :
  WGo n s 1 (out,inn,(pre.length : Int),stage,beg,word,()) (out,true,((pre.length + a.length + 2 : Nat) : Int),stage,iU (pre.length : Int) inn stage beg,word ++ aI a,()):=by
 refine .one fun m => ?_
 have hlen : s.length = pre.length + a.length + rest.length + 2:=by rw [hp]; simp; omega
 have w1 : bT n (inn,(pre.length : Int),stage,beg,()) = some (true,(pre.length : Int),stage,iU (pre.length : Int) inn stage beg,()):=Dl (by omega)
 have hdr : s.drop ((pre.length : Int) + 1).toNat = a ++ 39 :: rest:=by
  rw [hp,show ((pre.length : Int) + 1).toNat = pre.length + 1 by omega]
  simp
 rw [vB,aP]
 simp only
 rw [bR (decide_eq_true (by omega)),aW (iP (by omega)),eG hp,aS (by rfl),nI,show (((39 : UInt8).toNat : Int) == 9) = false from rfl,bX]
 simp only
 rw [Ci,aS (by rfl),aS (by rfl),Il,gZ,nI,show decide (Go.Lib.indexByte [10,59,38,60,62,40,41,36,42,63,91,96] ((39 : UInt8).toNat : Int).toNat.toUInt8 ≥ 0) = false by decide,eH]
 simp only
 rw [Ci,bR (by rfl),jK (x:=(pre.length : Int) + 1) (by omega) (by omega),aW (by simp; omega),hdr]
 unfold strings_Cut
 simp only
 rw [aW (decide_eq_true (by simp; omega)),gZ,zJv,Zv rest ha]
 simp only
 rw [aS (by rfl),w1,gZ]
 simp only
 rw [aW (by simp [room]; omega),jK (x:=(a.length : Int) + 2) (by omega) (by omega),jK (by omega) (by omega),show (pre.length : Int) + ((a.length : Int) + 2) = ((pre.length + a.length + 2 : Nat) : Int) by omega]
theorem go_back {pre rest : List UInt8} {c : UInt8} (hp : s = pre ++ 92 :: c :: rest) (hc : ¬ c = 10) (hst : stage.length <= 1000) (hb : beg.length <= 1000) (hw : word.length <= 100000) :
  WGo n s 1 (out,inn,(pre.length : Int),stage,beg,word,()) (out,true,((pre.length + 2 : Nat) : Int),stage,iU (pre.length : Int) inn stage beg,word ++ [(c.toNat : Int)],()):=by
 refine .one fun m => ?_
 have hlen : s.length = pre.length + rest.length + 2:=by rw [hp]; simp; omega
 have w1 : bT n (inn,(pre.length : Int),stage,beg,()) = some (true,(pre.length : Int),stage,iU (pre.length : Int) inn stage beg,()):=Dl (by omega)
 have hp2 : s = (pre ++ [92]) ++ c :: rest:=by rw [hp]; simp
 have hg : aY 0 s ((pre.length : Int) + 1) = c:=by
  have:=eG (d:=(0 : UInt8)) hp2
  have e : ((pre ++ [92]).length : Int) = (pre.length : Int) + 1:=by simp
  rw [e] at this
  exact this
 have hb2 : inB ((pre.length : Int) + 1) s.length = true:=zBr (by omega) (by omega)
 have zVx : ((c.toNat : Int) == 10) = false:=by
  rw [beq_eq_false_iff_ne]
  intro h
  apply hc
  have : c.toNat = 10:=by omega
  exact UInt8.toNat_inj.1 (by rw [this]; rfl)
 rw [vB,aP]
 simp only
 rw [bR (decide_eq_true (by omega)),aW (iP (by omega)),eG hp,aS (by rfl),nI,show (((92 : UInt8).toNat : Int) == 9) = false from rfl,bX]
 simp only
 rw [Ci,aS (by rfl),aS (by rfl),Il,gZ,nI,show decide (Go.Lib.indexByte [10,59,38,60,62,40,41,36,42,63,91,96] ((92 : UInt8).toNat : Int).toNat.toUInt8 ≥ 0) = false by decide,eH]
 simp only
 rw [Ci,aS (by rfl),aS (by rfl),bR (by rfl),jK (x:=(pre.length : Int) + 1) (by omega) (by omega),aS (by rw [beq_eq_false_iff_ne]; omega),aW hb2,hg,aS zVx,nI,rY]
 simp only
 rw [w1,gZ]
 simp only
 rw [jK (x:=(pre.length : Int) + 1) (by omega) (by omega),aW hb2,hg,aW (by simp [room]; omega),jK (by omega) (by omega)]
 rfl
omit hs in
theorem yA {p : Int} : iU p true stage beg = beg:=by simp [iU]
omit hs in
theorem Oj {p : Int} : beg.length <= (iU p inn stage beg).length:=by
 unfold iU; split <;> simp
theorem Ql : ∀ (w : List UInt8) {pre rest : List UInt8} {inn : Bool} {beg word : List Int},w ≠ [] -> (∀ c ∈ w,xZ c = true) -> s = pre ++ (w ++ rest) -> stage.length <= 1000 -> (iU (pre.length : Int) inn stage beg).length <= 1000 -> word.length + w.length <= 90000 ->
  WGo n s w.length (out,inn,(pre.length : Int),stage,beg,word,()) (out,true,((pre.length + w.length : Nat) : Int),stage,iU (pre.length : Int) inn stage beg,word ++ aI w,())
 | [],_,_,_,_,_,h,_,_,_,_,_ => absurd rfl h
 | c :: w,pre,rest,inn,beg,word,_,hc,hp,hst,hb,hw => by
  have hle:=Oj (inn:=inn) (stage:=stage) (beg:=beg) (p:=(pre.length : Int))
  simp only [List.length_cons] at hw
  have h1:=zIx hs (n:=n) (out:=out) (inn:=inn) (stage:=stage) (word:=word) (beg:=beg) (rest:=w ++ rest) (by simpa using hp) (hc c (by simp)) hst (by omega) (by omega)
  cases w with
  | nil => simpa [aI] using h1
  | cons d w =>
   have h2:=Ql (d :: w) (pre:=pre ++ [c]) (rest:=rest) (inn:=true) (beg:=iU (pre.length : Int) inn stage beg) (word:=word ++ [(c.toNat : Int)]) (by simp) (fun e h => hc e (List.mem_cons_of_mem _ h)) (by rw [hp]; simp) hst (by rw [yA]; exact hb) (by simp at hw ⊢; omega)
   rw [yA,show (pre ++ [c]).length = pre.length + 1 by simp] at h2
   have h4:=(h1.trans h2).mono (b:=(c :: d :: w).length) (by simp; omega)
   rw [show pre.length + (c :: d :: w).length = pre.length + 1 + (d :: w).length by simp; omega]
   simpa [aI] using h4
omit hs in
theorem Mf {a : List UInt8} (h : (39 : UInt8) ∉ a) (r : List UInt8) : bS 39 qt (a ++ r) = a ++ bS 39 qt r:=by
 induction a with
 | nil => rfl
 | cons b a ih =>
  have h1 : b ≠ 39:=fun e => h (by simp [e])
  have h2 : (39 : UInt8) ∉ a:=fun e => h (by simp [e])
  simp [bS,h1,ih h2]
omit hs in
theorem Zw : ∀ w : List UInt8,(39 : UInt8) ∉ w ∨ ∃ a r,w = a ++ 39 :: r ∧ (39 : UInt8) ∉ a
 | [] => .inl (by simp)
 | c :: w => by
  by_cases h : c = 39
  ·exact .inr ⟨[],w,by simp [h],by simp⟩
  ·rcases Zw w with h2 | ⟨a,r,rfl,h2⟩
   ·exact .inl (by simp [Ne.symm h,h2])
   ·exact .inr ⟨c :: a,r,by simp,by simp [Ne.symm h,h2]⟩
theorem zFs : ∀ (k : Nat) (w : List UInt8) {pre rest : List UInt8} {inn : Bool} {beg word : List Int},w.length <= k -> s = pre ++ (39 :: (bS 39 qt w ++ 39 :: rest)) -> stage.length <= 1000 -> (iU (pre.length : Int) inn stage beg).length <= 1000 -> word.length + w.length <= 90000 ->
  WGo n s (2 * w.length + 1) (out,inn,(pre.length : Int),stage,beg,word,()) (out,true,((pre.length + (bS 39 qt w).length + 2 : Nat) : Int),stage,iU (pre.length : Int) inn stage beg,word ++ aI w,()):=by
 intro k
 induction k with
 | zero =>
  intro w pre rest inn beg word hk hp hst hb hw
  have hle:=Oj (inn:=inn) (stage:=stage) (beg:=beg) (p:=(pre.length : Int))
  have : w = []:=List.eq_nil_of_length_eq_zero (by omega)
  subst this
  have:=Dr hs (n:=n) (out:=out) (inn:=inn) (word:=word) (beg:=beg) (a:=[]) (rest:=rest) (by simpa [bS] using hp) (by simp) hst (by omega) (by omega)
  simpa [bS,aI] using this
 | succ k ih =>
  intro w pre rest inn beg word hk hp hst hb hw
  have hle:=Oj (inn:=inn) (stage:=stage) (beg:=beg) (p:=(pre.length : Int))
  rcases Zw w with hno | ⟨a,r,rfl,hno⟩
  ·have e : bS 39 qt w = w:=by simpa [bS] using Mf hno []
   rw [e] at hp ⊢
   exact (Dr hs (n:=n) (out:=out) (inn:=inn) (word:=word) (beg:=beg) (a:=w) (rest:=rest) hp hno hst (by omega) (by omega)).mono (by omega)
  ·have e : bS 39 qt (a ++ 39 :: r) = a ++ ([39,92,39,39] ++ bS 39 qt r):=by rw [Mf hno]; simp [bS]
   rw [e] at hp ⊢
   simp only [List.length_append,List.length_cons] at hk hw
   have h1:=Dr hs (n:=n) (out:=out) (inn:=inn) (word:=word) (beg:=beg) (stage:=stage) (pre:=pre) (a:=a) (rest:=92 :: 39 :: 39 :: (bS 39 qt r ++ 39 :: rest)) (by rw [hp]; simp) hno hst (by omega) (by omega)
   have h2:=go_back hs (n:=n) (out:=out) (inn:=true) (stage:=stage) (word:=word ++ aI a) (beg:=iU (pre.length : Int) inn stage beg) (pre:=pre ++ 39 :: (a ++ [39])) (c:=39) (rest:=39 :: (bS 39 qt r ++ 39 :: rest)) (by rw [hp]; simp) (by decide) hst (by omega) (by simp [lW]; omega)
   rw [yA,show (pre ++ 39 :: (a ++ [39]) : List UInt8).length = pre.length + a.length + 2 by simp; omega] at h2
   have h3:=ih r (pre:=pre ++ 39 :: (a ++ [39,92,39])) (rest:=rest) (inn:=true) (beg:=iU (pre.length : Int) inn stage beg) (word:=word ++ aI a ++ [39]) (by omega) (by rw [hp]; simp) hst (by rw [yA]; exact hb) (by simp [lW]; omega)
   rw [yA,show (pre ++ 39 :: (a ++ [39,92,39]) : List UInt8).length = pre.length + a.length + 2 + 2 by simp; omega] at h3
   have h4:=((h1.trans h2).trans h3).mono (b:=2 * (a ++ 39 :: r).length + 1) (by simp; omega)
   rw [show pre.length + (a ++ ([39,92,39,39] ++ bS 39 qt r) : List UInt8).length + 2 = pre.length + a.length + 2 + 2 + (bS 39 qt r).length + 2 by simp; omega]
   rw [show aI (a ++ 39 :: r) = aI a ++ ([39] ++ aI r) by simp [aI]]
   simpa [List.append_assoc] using h4
theorem Zx {w pre rest : List UInt8} (hp : s = pre ++ (qS w ++ rest)) (hst : stage.length <= 1000) (hb : (iU (pre.length : Int) inn stage beg).length <= 1000) (hw : word.length + w.length <= 90000) :
  WGo n s (2 * w.length + 1) (out,inn,(pre.length : Int),stage,beg,word,()) (out,true,((pre.length + (qS w).length : Nat) : Int),stage,iU (pre.length : Int) inn stage beg,word ++ aI w,()):=by
 unfold qS at hp ⊢
 split
 ·rename_i h
  rw [if_pos h] at hp
  simp only [Bool.and_eq_true,Bool.not_eq_true'] at h
  have hne : w ≠ []:=by
   intro e
   rw [e] at h
   simp at h
  have hall : ∀ c ∈ w,xZ c = true:=fun c hc => zIw (by
   have:=h.2
   rw [List.any_eq_false] at this
   simpa using this c hc)
  exact (Ql hs w hne hall hp hst hb hw).mono (by omega)
 ·rename_i h
  rw [if_neg h] at hp
  have:=zFs hs w.length w (n:=n) (out:=out) (inn:=inn) (word:=word) (beg:=beg) (rest:=rest) (Nat.le_refl _) (by rw [hp]; simp) hst hb hw
  rw [show ([39] ++ bS 39 qt w ++ [39] : List UInt8).length = (bS 39 qt w).length + 2 by simp]
  simpa [Nat.add_assoc] using this
omit hs in
theorem zFt {m : Nat} (hm : 0 < m) (hst : stage.length <= 1000) (ho : out.length <= 1000) (hne : oV inn stage word ≠ []) :
  fix (aP n) m (s,out,inn,(s.length : Int),stage,beg,word,()) = gN n (out ++ [oV inn stage word],(s.length : Int),beg,()):=by
 rw [dM hm,aP]
 simp only
 rw [aS (by simp),wI (by omega),gZ]
 simp only
 have he : (if inn = true then stage ++ [fC word] else stage) = oV inn stage word:=rfl
 simp only [he]
 have hp : 0 < (oV inn stage word).length:=List.length_pos_iff.2 hne
 rw [bR (decide_eq_true (by omega)),aW (by simp [room]; omega),nI]
omit hs in
theorem zFu {m : Nat} (hm : 0 < m) (he : oV inn stage word = []) (hst : stage.length <= 1000) :
  fix (aP n) m (s,[],inn,(s.length : Int),stage,beg,word,()) = gN n ([],(s.length : Int),beg,()):=by
 rw [dM hm,aP]
 simp only
 rw [aS (by simp),wI (by omega),gZ]
 simp only
 have he' : (if inn = true then stage ++ [fC word] else stage) = oV inn stage word:=rfl
 simp only [he',he]
 rw [aS (by simp),aS (by simp),nI]
end
end Go.Dec
namespace Go.Dec
set_option linter.unusedSimpArgs false
theorem Mg {st : List (List UInt8)} {w : List UInt8} : oV true st (aI w) = st ++ [w]:=by simp [oV,zDi]
theorem Wh {st : List (List UInt8)} {wd : List Int} : oV false st wd = st:=rfl
theorem Zy {p : Int} {inn : Bool} {st : List (List UInt8)} {beg : List Int} (h : st ≠ []) : iU p inn st beg = beg:=by simp [iU,h]
theorem zFv {p : Int} {beg : List Int} : iU p false [] beg = beg ++ [p]:=by simp [iU]
theorem zFw {n b : Nat} {s : List UInt8} {y : WSt} (h : WGo n s b ([],false,0,[],[],[],()) y) (hb : b < n) : ∃ m,0 < m ∧ iT n s = fix (aP n) m (s,y):=by
 obtain ⟨k,hk,h⟩:=h
 refine ⟨n - k,by omega,?_⟩
 have:=h (n - k)
 rw [show n - k + k = n by omega] at this
 exact this
end Go.Dec
namespace Go.Dec
set_option linter.unusedSimpArgs false
def rW : List (List UInt8) -> Nat
 | [] => 0
 | w :: r => 2 * w.length + 2 + rW r
theorem zUu {r : List (List UInt8)} (h : ∀ w ∈ r,w.length <= 100) : rW r <= 202 * r.length:=by
 induction r with
 | nil => simp [rW]
 | cons w r ih =>
  have h1:=h w (by simp)
  have h2:=ih (fun x hx => h x (by simp [hx]))
  simp only [rW,List.length_cons]
  omega
def tailW : List (List UInt8) -> List UInt8
 | [] => []
 | w :: r => 32 :: (qS w ++ tailW r)
theorem Qm (w : List UInt8) : ∀ r : List (List UInt8),dO (w :: r) = qS w ++ tailW r
 | [] => by simp [dO,dZ,tailW]
 | v :: r => by
  have:=Qm v r
  simp only [dO,List.map_cons] at this ⊢
  simp [dZ,tailW,this]
section
variable {n : Nat} {s : List UInt8} (hs : s.length <= 100000)
include hs
theorem Zz : ∀ (r : List (List UInt8)) {pre rest : List UInt8} {out : List (List (List UInt8))} {st : List (List UInt8)} {w0 : List UInt8} {beg : List Int},s = pre ++ (tailW r ++ rest) -> (∀ w ∈ r,w.length <= 100) -> st.length + r.length <= 900 -> beg.length <= 900 ->
  ∃ st' w',WGo n s (rW r) (out,true,(pre.length : Int),st,beg,aI w0,()) (out,true,((pre.length + (tailW r).length : Nat) : Int),st',beg,aI w',()) ∧ st' ++ [w'] = (st ++ [w0]) ++ r
 | [],pre,rest,out,st,w0,beg,_,_,_,_ => ⟨st,w0,by simpa [tailW] using WGo.refl _,by simp⟩
 | w :: r,pre,rest,out,st,w0,beg,hp,hw,hst,hb => by
  simp only [List.length_cons] at hst
  have h1:=Iu hs (n:=n) (out:=out) (inn:=true) (stage:=st) (beg:=beg) (word:=aI w0) (pre:=pre) (rest:=qS w ++ tailW r ++ rest) (c:=32) (by rw [hp]; simp [tailW]) (.inl rfl) (by omega)
  rw [Mg] at h1
  have h2:=Zx hs (n:=n) (out:=out) (inn:=false) (stage:=st ++ [w0]) (beg:=beg) (word:=[]) (w:=w) (pre:=pre ++ [32]) (rest:=tailW r ++ rest) (by rw [hp]; simp [tailW]) (by simp; omega) (by rw [Zy (by simp)]; omega) (by have:=hw w (by simp); simp; omega)
  rw [Zy (by simp),List.nil_append,show (pre ++ [32] : List UInt8).length = pre.length + 1 by simp] at h2
  obtain ⟨st',w',h3,h4⟩:=Zz r (pre:=pre ++ [32] ++ qS w) (rest:=rest) (out:=out) (st:=st ++ [w0]) (w0:=w) (beg:=beg) (by rw [hp]; simp [tailW]) (fun x hx => hw x (by simp [hx])) (by simp; omega) hb
  rw [show (pre ++ [32] ++ qS w : List UInt8).length = pre.length + 1 + (qS w).length by simp; omega] at h3
  refine ⟨st',w',?_,by rw [h4]; simp⟩
  have h:=((h1.trans h2).trans h3).mono (b:=rW (w :: r)) (by simp only [rW]; omega)
  rw [show pre.length + (tailW (w :: r)).length = pre.length + 1 + (qS w).length + (tailW r).length by simp [tailW]; omega]
  exact h
theorem zAa {ws : List (List UInt8)} {pre rest : List UInt8} {out : List (List (List UInt8))} {beg : List Int} (hp : s = pre ++ (dO ws ++ rest)) (hne : ws ≠ []) (hsm : kE ws) (hb : beg.length <= 800) :
  ∃ st' w',WGo n s (202 * ws.length) (out,false,(pre.length : Int),[],beg,[],()) (out,true,((pre.length + (dO ws).length : Nat) : Int),st',beg ++ [(pre.length : Int)],aI w',()) ∧ st' ++ [w'] = ws:=by
 obtain ⟨w,r,rfl⟩:=List.exists_cons_of_ne_nil hne
 rw [Qm] at hp ⊢
 have hw:=hsm.2
 have hl:=hsm.1
 simp only [List.length_cons] at hl
 have h1:=Zx hs (n:=n) (out:=out) (inn:=false) (stage:=[]) (beg:=beg) (word:=[]) (w:=w) (pre:=pre) (rest:=tailW r ++ rest) (by rw [hp]; simp) (by simp) (by rw [zFv]; simp; omega) (by have:=hw w (by simp); simp; omega)
 rw [zFv,List.nil_append] at h1
 obtain ⟨st',w',h2,h3⟩:=Zz hs r (n:=n) (pre:=pre ++ qS w) (rest:=rest) (out:=out) (st:=[]) (w0:=w) (beg:=beg ++ [(pre.length : Int)]) (by rw [hp]; simp) (fun x hx => hw x (by simp [hx])) (by simp; omega) (by simp; omega)
 rw [show (pre ++ qS w : List UInt8).length = pre.length + (qS w).length by simp] at h2
 refine ⟨st',w',?_,by rw [h3]; simp⟩
 have hr:=zUu (r:=r) (fun x hx => hw x (by simp [hx]))
 have h:=(h1.trans h2).mono (b:=202 * (w :: r).length) (by have:=hw w (by simp); simp only [List.length_cons]; omega)
 rw [show pre.length + (qS w ++ tailW r).length = pre.length + (qS w).length + (tailW r).length by simp; omega]
 exact h
def jO : List (List (List UInt8)) -> List UInt8
 | [] => []
 | ws :: r => Ir ++ (dO ws ++ jO r)
omit hs in
theorem Mh (ws : List (List UInt8)) : ∀ r : List (List (List UInt8)),dZ ((ws :: r).map dO) Ir = dO ws ++ jO r
 | [] => by simp [dZ,jO]
 | v :: r => by
  have:=Mh v r
  simp only [List.map_cons] at this ⊢
  simp [dZ,jO,this]
theorem Wi : ∀ (r : List (List (List UInt8))) {pre : List UInt8} {out : List (List (List UInt8))} {st : List (List UInt8)} {w0 : List UInt8} {beg : List Int},s = pre ++ jO r -> (∀ ws ∈ r,kE ws ∧ ws ≠ []) -> st.length <= 100 -> out.length + r.length <= 100 -> beg.length + r.length <= 700 ->
  ∃ out' st' w' Wj,WGo n s (2500 * r.length) (out,true,(pre.length : Int),st,beg,aI w0,()) (out',true,(s.length : Int),st',Wj,aI w',()) ∧ out' ++ [st' ++ [w']] = out ++ [st ++ [w0]] ++ r ∧ Wj.length = beg.length + r.length
 | [],pre,out,st,w0,beg,hp,_,_,_,_ => by
  refine ⟨out,st,w0,beg,?_,by simp,by simp⟩
  rw [show s.length = pre.length by rw [hp]; simp [jO]]
  exact WGo.refl _
 | ws :: r,pre,out,st,w0,beg,hp,hr,hst,hol,hbl => by
  simp only [List.length_cons] at hol hbl
  have hsm:=hr ws (by simp)
  have h1:=Iu hs (n:=n) (out:=out) (inn:=true) (stage:=st) (beg:=beg) (word:=aI w0) (pre:=pre) (rest:=[124,32] ++ dO ws ++ jO r) (c:=32) (by rw [hp]; simp [jO]) (.inl rfl) (by omega)
  rw [Mg] at h1
  have h2:=zSv hs (n:=n) (out:=out) (inn:=false) (stage:=st ++ [w0]) (beg:=beg) (word:=[]) (pre:=pre ++ [32]) (rest:=[32] ++ dO ws ++ jO r) (by rw [hp]; simp [jO]) (by simp; omega) (by omega) (by rw [Wh]; simp)
  rw [Wh,show (pre ++ [32] : List UInt8).length = pre.length + 1 by simp] at h2
  have h3:=Iu hs (n:=n) (out:=out ++ [st ++ [w0]]) (inn:=false) (stage:=[]) (beg:=beg) (word:=[]) (pre:=pre ++ [32,124]) (rest:=dO ws ++ jO r) (c:=32) (by rw [hp]; simp [jO]) (.inl rfl) (by simp)
  rw [Wh,show (pre ++ [32,124] : List UInt8).length = pre.length + 1 + 1 by simp] at h3
  obtain ⟨st1,w1,h4,h5⟩:=zAa hs (n:=n) (ws:=ws) (pre:=pre ++ [32,124,32]) (rest:=jO r) (out:=out ++ [st ++ [w0]]) (beg:=beg) (by rw [hp]; simp [jO]) hsm.2 hsm.1 (by omega)
  rw [show (pre ++ [32,124,32] : List UInt8).length = pre.length + 1 + 1 + 1 by simp] at h4
  have zIy : st1.length <= 100:=by
   have:=congrArg List.length h5
   have h12:=hsm.1.1
   simp at this
   omega
  obtain ⟨out',st',w',Wj,h6,h7,h8⟩:=Wi r (pre:=pre ++ [32,124,32] ++ dO ws) (out:=out ++ [st ++ [w0]]) (st:=st1) (w0:=w1) (beg:=beg ++ [((pre.length + 1 + 1 + 1 : Nat) : Int)]) (by rw [hp]; simp [jO]) (fun x hx => hr x (by simp [hx])) zIy (by simp; omega) (by simp; omega)
  rw [show (pre ++ [32,124,32] ++ dO ws : List UInt8).length = pre.length + 1 + 1 + 1 + (dO ws).length by simp; omega] at h6
  refine ⟨out',st',w',Wj,?_,by rw [h7,h5]; simp,by rw [h8]; simp; omega⟩
  have h12:=hsm.1.1
  exact ((((h1.trans h2).trans h3).trans h4).trans h6).mono (by simp only [List.length_cons]; omega)
end
theorem zIz {ws : List (List UInt8)} (h : uF ws = true) : ∃ r,ws = [115,101,100] :: r:=by
 cases ws with
 | nil => cases h
 | cons w r =>
  simp only [uF,beq_iff_eq] at h
  exact ⟨r,by rw [h]⟩
theorem zDp {n : Nat} {l : List (List (List UInt8))} (hl : l.length <= 8) (hsm : ∀ ws ∈ l,kE ws) (hg : l.all uF = true) (hn : 30000 <= n) : iT n (dZ (l.map dO) Ir) = some (l,0,0):=by
 have hg2 : ∀ ws ∈ l,∃ r,ws = [115,101,100] :: r:=fun ws h => zIz (List.all_eq_true.1 hg ws h)
 cases l with
 | nil =>
  show iT n [] = _
  have:=zFu (n:=n) (s:=[]) (inn:=false) (stage:=[]) (beg:=[]) (word:=[]) (m:=n) (by omega) rfl (by simp)
  unfold iT
  simp only [List.length_nil] at this ⊢
  rw [show ((0 : Nat) : Int) = 0 from rfl] at this
  rw [this]
  exact Zu (by simp) (by simp; omega) (by simp) (by simp)
 | cons ws r =>
  have hlen:=Qi hl hsm Ir (by simp)
  rw [Mh] at hlen ⊢
  generalize hs : dO ws ++ jO r = s at hlen ⊢
  have hs0 : s.length <= 100000:=by omega
  simp only [List.length_cons] at hl
  obtain ⟨q,hq⟩:=hg2 ws (by simp)
  have hw:=hsm ws (by simp)
  obtain ⟨st1,w1,h1,h2⟩:=zAa hs0 (n:=n) (ws:=ws) (pre:=[]) (rest:=jO r) (out:=[]) (beg:=[]) (by rw [<- hs]; simp) (by rw [hq]; simp) hw (by simp)
  simp only [List.length_nil,Nat.zero_add,List.nil_append] at h1
  have zIy : st1.length <= 100:=by
   have:=congrArg List.length h2
   have:=hw.1
   simp at *
   omega
  obtain ⟨out',st',w',Wj,h3,h4,h5⟩:=Wi hs0 (n:=n) r (pre:=dO ws) (out:=[]) (st:=st1) (w0:=w1) (beg:=[((0 : Nat) : Int)]) (by rw [<- hs]) (fun x hx => ⟨hsm x (by simp [hx]),by obtain ⟨q,hq⟩:=hg2 x (by simp [hx]); rw [hq]; simp⟩) zIy (by simp; omega) (by simp; omega)
  have hw1:=hw.1
  obtain ⟨m,hm,hr⟩:=zFw ((h1.trans h3)) (by omega)
  rw [hr]
  have hout : out' ++ [st' ++ [w']] = ws :: r:=by rw [h4,h2]; simp
  have hol : out'.length <= 100:=by
   have:=congrArg List.length hout
   simp at this
   omega
  have zXb : st'.length <= 100:=by
   have hm : st' ++ [w'] ∈ (ws :: r):=by rw [<- hout]; simp
   have:=(hsm _ hm).1
   simp at this
   omega
  rw [zFt hm (by omega) (by omega) (by rw [Mg]; simp),Mg,hout]
  refine Zu (by simp; omega) (by simp; omega) ?_ hg2
  rw [h5]
  simp
  omega
theorem zJa {n : Nat} {l : List (List (List UInt8))} {i : Nat} {ws : List (List UInt8)} (hi : i < l.length) (hl : l.length <= 1000) (hg : aY (Ty.dflt (.slice .str)) l (i : Int) = ws) (hw : ws.length <= 1000) (g0 : List (List (List UInt8)) × List (List (List UInt8)) × Int × Unit -> Option Bool) :
  ∀ (r pre : List (List UInt8)) (m : Nat),ws = pre ++ r -> r.length < m -> fix (kR n g0) m (l,l,(i : Int),(pre.length : Int),()) = g0 (l,l,(i : Int) + 1,()):=by
 intro r
 induction r with
 | nil =>
  intro pre m hp hm
  have hp : pre = ws:=by simpa using hp.symm
  subst hp
  rw [dM (by omega),kR]
  simp only
  rw [aW (iP hi),hg,aS (by simp),jK (by omega) (by omega)]
 | cons c r ih =>
  intro pre m hp hm
  have hm' : r.length + 1 < m:=hm
  have hlen : ws.length = pre.length + r.length + 1:=by rw [hp]; simp; omega
  have h:=ih (pre ++ [c]) (m - 1) (by rw [hp]; simp) (by omega)
  rw [show ((pre ++ [c]).length : Int) = (pre.length : Int) + 1 by simp] at h
  have hc : aY (Ty.dflt .str) ws (pre.length : Int) = c:=eG hp
  rw [dM (by omega),kR]
  simp only
  rw [aW (iP hi),hg,bR (decide_eq_true (by omega)),aW (iP hi),aW (iP (by omega)),aW (iP hi),aW (iP (by omega)),hc,aS (by simp),jK (by omega) (by omega)]
  exact h
theorem zJb {n : Nat} {l : List (List (List UInt8))} (hl : l.length <= 1000) (hw : ∀ ws ∈ l,ws.length <= 1000 ∧ ws.length < n) : ∀ (r pre : List (List (List UInt8))) (m : Nat),l = pre ++ r -> r.length < m -> fix (iW n) m (l,l,(pre.length : Int),()) = some true:=by
 intro r
 induction r with
 | nil =>
  intro pre m hp hm
  have hp : pre = l:=by simpa using hp.symm
  subst hp
  rw [dM (by omega),iW]
  simp only
  rw [aS (by simp)]
 | cons ws r ih =>
  intro pre m hp hm
  have hm' : r.length + 1 < m:=hm
  have hlen : l.length = pre.length + r.length + 1:=by rw [hp]; simp; omega
  have h:=ih (pre ++ [ws]) (m - 1) (by rw [hp]; simp) (by omega)
  rw [show ((pre ++ [ws]).length : Int) = (pre.length : Int) + 1 by simp] at h
  have hc : aY (Ty.dflt (.slice .str)) l (pre.length : Int) = ws:=eG hp
  have hb:=hw ws (by rw [hp]; simp)
  rw [dM (by omega),iW]
  simp only
  rw [bR (decide_eq_true (by omega)),aW (iP (by omega)),aW (iP (by omega)),hc,aS (by simp)]
  have h1:=zJa (n:=n) (i:=pre.length) (by omega) hl hc hb.1 (fix (iW n) (m - 1)) ws [] n rfl hb.2
  simp only [List.length_nil] at h1
  rw [show ((0 : Nat) : Int) = 0 from rfl] at h1
  rw [h1,h]
theorem same_eq {n : Nat} {l : List (List (List UInt8))} (hl : l.length <= 8) (hsm : ∀ ws ∈ l,kE ws) (hn : 1000 <= n) : pF n (l,l) = some true:=by
 unfold pF
 simp only
 rw [aS (by simp)]
 exact zJb (by omega) (fun ws h => by have:=(hsm ws h).1; omega) l [] n rfl (by omega)
def pI (x : List (List (List UInt8))) : Option Bool:=qO (30000 + pG x) x
theorem zDq {n : Nat} {l : List (List (List UInt8))} (hl : l.length <= maxLen) (hls : ∀ ws ∈ l,ws.length <= maxLen) (hn : pG l < n) : kW n (l,[]) = some false ∨ (kW n (l,[]) = some true ∧ l.length <= 8 ∧ ∀ ws ∈ l,kE ws) :=
 zUt hl hls hn l [] n rfl (by have:=Qk l; omega) (by simp)
theorem zJc {n : Nat} (hn : 2000 <= n) {l : List (List (List UInt8))} (hl : l.length <= 8) (hs : ∀ ws ∈ l,kE ws) : uE n l = some (if l.all uF = true then (dZ (l.map dO) Ir,0) else ([],1)) :=
 zUs hn hl hs l [] n rfl (by omega)
theorem yD (x : List (List (List UInt8))) (h : Ju [.slice (.slice .str)] x) : pI x = some true:=by
 have hwf : x.length <= maxLen ∧ ∀ ws ∈ x,ws.length <= maxLen:=⟨h.1,fun ws hw => (h.2 ws hw).1⟩
 unfold pI qO
 simp only
 generalize hn : 30000 + pG x = n
 rcases zDq (n:=n) hwf.1 hwf.2 (by omega) with hb | ⟨hb,h8,hsm⟩
 ·rw [hb,gZ,bR (b:=!false) rfl]; rfl
 ·rw [hb,gZ,aS (b:=!true) rfl,show shown21 n () = some true from rfl,gZ,aS (b:=!true) rfl,zJc (by omega) h8 hsm,gZ]
  by_cases hg : x.all uF = true
  ·rw [if_pos hg]
   simp only
   rw [aS (by rfl),zDp h8 hsm hg (by omega),gZ]
   simp only
   rw [bR (by rfl),same_eq h8 hsm (by omega),gZ]
  ·rw [if_neg hg]
   simp only
   rw [bR (by rfl)]
   rfl
end Go.Dec
