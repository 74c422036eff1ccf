/- Part of a proof over this seat: a library of my own, and what it says of this seat. No statement is proved here. -/
import Derived.Test.YtfpipcafiocdoaaGreatDoorPartBL
import Derived.Test.YtfpipcafiocdoaaGreatDoorPartBN
namespace Go.Dec
set_option linter.unusedSimpArgs false
abbrev WSt : Type:=List (List (List UInt8)) × Bool × Int × List (List UInt8) × List Int × List Int × Unit
def WGo (n : Nat) (s : List UInt8) (b : Nat) (x y : WSt) : Prop:=∃ k,k <= b ∧ ∀ m,fix (aS n) (m + k) (s,x) = fix (aS n) m (s,y)
theorem WGo.refl {n : Nat} {s : List UInt8} {b : Nat} (x : WSt) : WGo n s b x x:=⟨0,Nat.zero_le _,fun _ => rfl⟩
theorem WGo.trans {n : Nat} {s : List UInt8} {a b : Nat} {x y z : WSt} (h : WGo n s a x y) (h' : WGo n s b y z) : WGo n s (a + b) x z:=by
 obtain ⟨k,hk,h⟩:=h
 obtain ⟨j,hj,h'⟩:=h'
 exact ⟨j + k,by omega,fun m => by rw [<- Nat.add_assoc,h,h']⟩
theorem WGo.mono {n : Nat} {s : List UInt8} {a b : Nat} {x y : WSt} (h : WGo n s a x y) (hb : a <= b) : WGo n s b x y:=by
 obtain ⟨k,hk,h⟩:=h
 exact ⟨k,by omega,h⟩
theorem WGo.one {n : Nat} {s : List UInt8} {x y : WSt} (h : ∀ m,fix (aS n) (m + 1) (s,x) = fix (aS n) m (s,y)) : WGo n s 1 x y:=⟨1,Nat.le_refl _,h⟩
section
variable {n : Nat} {s : List UInt8} (hs : s.length <= 100000) {out : List (List (List UInt8))} {inn : Bool} {stage : List (List UInt8)} {beg word : List Int}
include hs
theorem Ay {pre rest : List UInt8} {c : UInt8} (hp : s = pre ++ c :: rest) (hc : c = 32 ∨ c = 9) (hst : stage.length <= 1000) :
  WGo n s 1 (out,inn,(pre.length : Int),stage,beg,word,()) (out,false,((pre.length + 1 : Nat) : Int),kU inn stage word,beg,[],()):=by
 refine .one fun m => ?_
 have hlen : s.length = pre.length + rest.length + 1:=by rw [hp]; simp; omega
 rw [vI,aS]
 simp only
 rw [bJ (decide_eq_true (by omega)),aL (eZ (by omega)),dO hp]
 have blank : bZ n (fix (aS n) m) (s,(c.toNat : Int),true,out,inn,(pre.length : Int),stage,beg,word,()) = fix (aS n) m (s,out,false,((pre.length + 1 : Nat) : Int),kU inn stage word,beg,[],()):=by
  rw [bZ]
  simp only
  rw [zPk,wP (by omega),gH]
  simp only
  rw [fZ (by omega) (by omega)]
  rfl
 rcases hc with rfl | rfl
 ·rw [bJ (by rfl),nQ,blank]
 ·rw [aR (by rfl),nQ]
  exact blank
theorem zGu {pre rest : List UInt8} (hp : s = pre ++ 124 :: rest) (hst : stage.length <= 1000) (ho : out.length <= 1000) (hne : kU inn stage word ≠ []) :
  WGo n s 1 (out,inn,(pre.length : Int),stage,beg,word,()) (out ++ [kU inn stage word],false,((pre.length + 1 : Nat) : Int),[],beg,[],()):=by
 refine .one fun m => ?_
 have hlen : s.length = pre.length + rest.length + 1:=by rw [hp]; simp; omega
 rw [vI,aS]
 simp only
 rw [bJ (decide_eq_true (by omega)),aL (eZ (by omega)),dO hp,aR (by rfl),nQ,show (((124 : UInt8).toNat : Int) == 9) = false from rfl,bZ]
 simp only
 rw [Db,bJ (by rfl),wP (by omega),gH]
 simp only
 have he : (if inn = true then stage ++ [fH word] else stage) = kU inn stage word:=rfl
 simp only [he]
 rw [aR (by simpa using hne),aL (by simp [room]; omega),fZ (by omega) (by omega)]
 rfl
def yI (c : UInt8) : Bool:=!((c.toNat : Int) == 32) && (!((c.toNat : Int) == 9) && (!((c.toNat : Int) == 124) && (!((c.toNat : Int) == 35) && (!decide (Go.Lib.indexByte [10,59,38,60,62,40,41,36,42,63,91,96] (c.toNat : Int).toNat.toUInt8 ≥ 0) && (!((c.toNat : Int) == 39) && (!((c.toNat : Int) == 34) && !((c.toNat : Int) == 92)))))))
omit hs in
theorem zGv : ∀ k : Fin 256,(!st k.val.toUInt8) = true -> yI k.val.toUInt8 = true:=by decide +kernel
omit hs in
theorem zJz {c : UInt8} (h : st c = false) : yI c = true:=by
 have:=zGv ⟨c.toNat,c.toNat_lt⟩
 simp only [Nat.toUInt8_eq,UInt8.ofNat_toNat] at this
 exact this (by rw [h]; rfl)
theorem zKa {pre rest : List UInt8} {c : UInt8} (hp : s = pre ++ c :: rest) (hc : yI c = true) (hst : stage.length <= 1000) (hb : beg.length <= 1000) (hw : word.length <= 100000) :
  WGo n s 1 (out,inn,(pre.length : Int),stage,beg,word,()) (out,true,((pre.length + 1 : Nat) : Int),stage,gL (pre.length : Int) inn stage beg,word ++ [(c.toNat : Int)],()):=by
 refine .one fun m => ?_
 have hlen : s.length = pre.length + rest.length + 1:=by rw [hp]; simp; omega
 simp only [yI,Bool.and_eq_true,Bool.not_eq_true'] at hc
 obtain ⟨h1,h2,h3,h4,h5,h6,h7,h8⟩:=hc
 have w1 : bV n (inn,(pre.length : Int),stage,beg,()) = some (true,(pre.length : Int),stage,gL (pre.length : Int) inn stage beg,()):=Eb (by omega)
 rw [vI,aS]
 simp only
 rw [bJ (decide_eq_true (by omega)),aL (eZ (by omega)),dO hp,aR h1,nQ,h2,bZ]
 simp only
 rw [Db,aR h3,aR h4,Jk,gH,nQ,h5,eU]
 simp only
 rw [Db,aR h6,aR h7,aR h8,w1,gH]
 simp only
 rw [aL (by simp [room]; omega),fZ (by omega) (by omega)]
 rfl
theorem Eh {pre a rest : List UInt8} (hp : s = pre ++ 39 :: (a ++ 39 :: rest)) (ha : (39 : UInt8) ∉ a) (hst : stage.length <= 1000) (hb : beg.length <= 1000) (hw : word.length <= 100000) :
  WGo n s 1 (out,inn,(pre.length : Int),stage,beg,word,()) (out,true,((pre.length + a.length + 2 : Nat) : Int),stage,gL (pre.length : Int) inn stage beg,word ++ aI a,()):=by
 refine .one fun m => ?_
 have hlen : s.length = pre.length + a.length + rest.length + 2:=by rw [hp]; simp; omega
 have w1 : bV n (inn,(pre.length : Int),stage,beg,()) = some (true,(pre.length : Int),stage,gL (pre.length : Int) inn stage beg,()):=Eb (by omega)
 have hdr : s.drop ((pre.length : Int) + 1).toNat = a ++ 39 :: rest:=by
  rw [hp,show ((pre.length : Int) + 1).toNat = pre.length + 1 by omega]
  simp
 rw [vI,aS]
 simp only
 rw [bJ (decide_eq_true (by omega)),aL (eZ (by omega)),dO hp,aR (by rfl),nQ,show (((39 : UInt8).toNat : Int) == 9) = false from rfl,bZ]
 simp only
 rw [Db,aR (by rfl),aR (by rfl),Jk,gH,nQ,show decide (Go.Lib.indexByte [10,59,38,60,62,40,41,36,42,63,91,96] ((39 : UInt8).toNat : Int).toNat.toUInt8 ≥ 0) = false by decide,eU]
 simp only
 rw [Db,bJ (by rfl),fZ (x:=(pre.length : Int) + 1) (by omega) (by omega),aL (by simp; omega),hdr]
 unfold strings_Cut
 simp only
 rw [aL (decide_eq_true (by simp; omega)),gH,zKx,zAx rest ha]
 simp only
 rw [aR (by rfl),w1,gH]
 simp only
 rw [aL (by simp [room]; omega),fZ (x:=(a.length : Int) + 2) (by omega) (by omega),fZ (by omega) (by omega),show (pre.length : Int) + ((a.length : Int) + 2) = ((pre.length + a.length + 2 : Nat) : Int) by omega]
theorem go_back {pre rest : List UInt8} {c : UInt8} (hp : s = pre ++ 92 :: c :: rest) (hc : ¬ c = 10) (hst : stage.length <= 1000) (hb : beg.length <= 1000) (hw : word.length <= 100000) :
  WGo n s 1 (out,inn,(pre.length : Int),stage,beg,word,()) (out,true,((pre.length + 2 : Nat) : Int),stage,gL (pre.length : Int) inn stage beg,word ++ [(c.toNat : Int)],()):=by
 refine .one fun m => ?_
 have hlen : s.length = pre.length + rest.length + 2:=by rw [hp]; simp; omega
 have w1 : bV n (inn,(pre.length : Int),stage,beg,()) = some (true,(pre.length : Int),stage,gL (pre.length : Int) inn stage beg,()):=Eb (by omega)
 have hp2 : s = (pre ++ [92]) ++ c :: rest:=by rw [hp]; simp
 have hg : aN 0 s ((pre.length : Int) + 1) = c:=by
  have:=dO (d:=(0 : UInt8)) hp2
  have e : ((pre ++ [92]).length : Int) = (pre.length : Int) + 1:=by simp
  rw [e] at this
  exact this
 have hb2 : inB ((pre.length : Int) + 1) s.length = true:=zCr (by omega) (by omega)
 have zXd : ((c.toNat : Int) == 10) = false:=by
  rw [beq_eq_false_iff_ne]
  intro h
  apply hc
  have : c.toNat = 10:=by omega
  exact UInt8.toNat_inj.1 (by rw [this]; rfl)
 rw [vI,aS]
 simp only
 rw [bJ (decide_eq_true (by omega)),aL (eZ (by omega)),dO hp,aR (by rfl),nQ,show (((92 : UInt8).toNat : Int) == 9) = false from rfl,bZ]
 simp only
 rw [Db,aR (by rfl),aR (by rfl),Jk,gH,nQ,show decide (Go.Lib.indexByte [10,59,38,60,62,40,41,36,42,63,91,96] ((92 : UInt8).toNat : Int).toNat.toUInt8 ≥ 0) = false by decide,eU]
 simp only
 rw [Db,aR (by rfl),aR (by rfl),bJ (by rfl),fZ (x:=(pre.length : Int) + 1) (by omega) (by omega),aR (by rw [beq_eq_false_iff_ne]; omega),aL hb2,hg,aR zXd,nQ,sI]
 simp only
 rw [w1,gH]
 simp only
 rw [fZ (x:=(pre.length : Int) + 1) (by omega) (by omega),aL hb2,hg,aL (by simp [room]; omega),fZ (by omega) (by omega)]
 rfl
omit hs in
theorem yJ {p : Int} : gL p true stage beg = beg:=by simp [gL]
omit hs in
theorem Pw {p : Int} : beg.length <= (gL p inn stage beg).length:=by
 unfold gL; split <;> simp
theorem Sq : ∀ (w : List UInt8) {pre rest : List UInt8} {inn : Bool} {beg word : List Int},w ≠ [] -> (∀ c ∈ w,yI c = true) -> s = pre ++ (w ++ rest) -> stage.length <= 1000 -> (gL (pre.length : Int) inn stage beg).length <= 1000 -> word.length + w.length <= 90000 ->
  WGo n s w.length (out,inn,(pre.length : Int),stage,beg,word,()) (out,true,((pre.length + w.length : Nat) : Int),stage,gL (pre.length : Int) inn stage beg,word ++ aI w,())
 | [],_,_,_,_,_,h,_,_,_,_,_ => absurd rfl h
 | c :: w,pre,rest,inn,beg,word,_,hc,hp,hst,hb,hw => by
  have hle:=Pw (inn:=inn) (stage:=stage) (beg:=beg) (p:=(pre.length : Int))
  simp only [List.length_cons] at hw
  have h1:=zKa hs (n:=n) (out:=out) (inn:=inn) (stage:=stage) (word:=word) (beg:=beg) (rest:=w ++ rest) (by simpa using hp) (hc c (by simp)) hst (by omega) (by omega)
  cases w with
  | nil => simpa [aI] using h1
  | cons d w =>
   have h2:=Sq (d :: w) (pre:=pre ++ [c]) (rest:=rest) (inn:=true) (beg:=gL (pre.length : Int) inn stage beg) (word:=word ++ [(c.toNat : Int)]) (by simp) (fun e h => hc e (List.mem_cons_of_mem _ h)) (by rw [hp]; simp) hst (by rw [yJ]; exact hb) (by simp at hw ⊢; omega)
   rw [yJ,show (pre ++ [c]).length = pre.length + 1 by simp] at h2
   have h4:=(h1.trans h2).mono (b:=(c :: d :: w).length) (by simp; omega)
   rw [show pre.length + (c :: d :: w).length = pre.length + 1 + (d :: w).length by simp; omega]
   simpa [aI] using h4
omit hs in
theorem Nl {a : List UInt8} (h : (39 : UInt8) ∉ a) (r : List UInt8) : bT 39 qt (a ++ r) = a ++ bT 39 qt r:=by
 induction a with
 | nil => rfl
 | cons b a ih =>
  have h1 : b ≠ 39:=fun e => h (by simp [e])
  have h2 : (39 : UInt8) ∉ a:=fun e => h (by simp [e])
  simp [bT,h1,ih h2]
omit hs in
theorem zAy : ∀ w : List UInt8,(39 : UInt8) ∉ w ∨ ∃ a r,w = a ++ 39 :: r ∧ (39 : UInt8) ∉ a
 | [] => .inl (by simp)
 | c :: w => by
  by_cases h : c = 39
  ·exact .inr ⟨[],w,by simp [h],by simp⟩
  ·rcases zAy w with h2 | ⟨a,r,rfl,h2⟩
   ·exact .inl (by simp [Ne.symm h,h2])
   ·exact .inr ⟨c :: a,r,by simp,by simp [Ne.symm h,h2]⟩
theorem zGw : ∀ (k : Nat) (w : List UInt8) {pre rest : List UInt8} {inn : Bool} {beg word : List Int},w.length <= k -> s = pre ++ (39 :: (bT 39 qt w ++ 39 :: rest)) -> stage.length <= 1000 -> (gL (pre.length : Int) inn stage beg).length <= 1000 -> word.length + w.length <= 90000 ->
  WGo n s (2 * w.length + 1) (out,inn,(pre.length : Int),stage,beg,word,()) (out,true,((pre.length + (bT 39 qt w).length + 2 : Nat) : Int),stage,gL (pre.length : Int) inn stage beg,word ++ aI w,()):=by
 intro k
 induction k with
 | zero =>
  intro w pre rest inn beg word hk hp hst hb hw
  have hle:=Pw (inn:=inn) (stage:=stage) (beg:=beg) (p:=(pre.length : Int))
  have : w = []:=List.eq_nil_of_length_eq_zero (by omega)
  subst this
  have:=Eh hs (n:=n) (out:=out) (inn:=inn) (word:=word) (beg:=beg) (a:=[]) (rest:=rest) (by simpa [bT] using hp) (by simp) hst (by omega) (by omega)
  simpa [bT,aI] using this
 | succ k ih =>
  intro w pre rest inn beg word hk hp hst hb hw
  have hle:=Pw (inn:=inn) (stage:=stage) (beg:=beg) (p:=(pre.length : Int))
  rcases zAy w with hno | ⟨a,r,rfl,hno⟩
  ·have e : bT 39 qt w = w:=by simpa [bT] using Nl hno []
   rw [e] at hp ⊢
   exact (Eh hs (n:=n) (out:=out) (inn:=inn) (word:=word) (beg:=beg) (a:=w) (rest:=rest) hp hno hst (by omega) (by omega)).mono (by omega)
  ·have e : bT 39 qt (a ++ 39 :: r) = a ++ ([39,92,39,39] ++ bT 39 qt r):=by rw [Nl hno]; simp [bT]
   rw [e] at hp ⊢
   simp only [List.length_append,List.length_cons] at hk hw
   have h1:=Eh hs (n:=n) (out:=out) (inn:=inn) (word:=word) (beg:=beg) (stage:=stage) (pre:=pre) (a:=a) (rest:=92 :: 39 :: 39 :: (bT 39 qt r ++ 39 :: rest)) (by rw [hp]; simp) hno hst (by omega) (by omega)
   have h2:=go_back hs (n:=n) (out:=out) (inn:=true) (stage:=stage) (word:=word ++ aI a) (beg:=gL (pre.length : Int) inn stage beg) (pre:=pre ++ 39 :: (a ++ [39])) (c:=39) (rest:=39 :: (bT 39 qt r ++ 39 :: rest)) (by rw [hp]; simp) (by decide) hst (by omega) (by simp [mE]; omega)
   rw [yJ,show (pre ++ 39 :: (a ++ [39]) : List UInt8).length = pre.length + a.length + 2 by simp; omega] at h2
   have h3:=ih r (pre:=pre ++ 39 :: (a ++ [39,92,39])) (rest:=rest) (inn:=true) (beg:=gL (pre.length : Int) inn stage beg) (word:=word ++ aI a ++ [39]) (by omega) (by rw [hp]; simp) hst (by rw [yJ]; exact hb) (by simp [mE]; omega)
   rw [yJ,show (pre ++ 39 :: (a ++ [39,92,39]) : List UInt8).length = pre.length + a.length + 2 + 2 by simp; omega] at h3
   have h4:=((h1.trans h2).trans h3).mono (b:=2 * (a ++ 39 :: r).length + 1) (by simp; omega)
   rw [show pre.length + (a ++ ([39,92,39,39] ++ bT 39 qt r) : List UInt8).length + 2 = pre.length + a.length + 2 + 2 + (bT 39 qt r).length + 2 by simp; omega]
   rw [show aI (a ++ 39 :: r) = aI a ++ ([39] ++ aI r) by simp [aI]]
   simpa [List.append_assoc] using h4
theorem Px {w pre rest : List UInt8} (hp : s = pre ++ (qS w ++ rest)) (hst : stage.length <= 1000) (hb : (gL (pre.length : Int) inn stage beg).length <= 1000) (hw : word.length + w.length <= 90000) :
  WGo n s (2 * w.length + 1) (out,inn,(pre.length : Int),stage,beg,word,()) (out,true,((pre.length + (qS w).length : Nat) : Int),stage,gL (pre.length : Int) inn stage beg,word ++ aI w,()):=by
 unfold qS at hp ⊢
 split
 ·rename_i h
  rw [if_pos h] at hp
  simp only [Bool.and_eq_true,Bool.not_eq_true'] at h
  have hne : w ≠ []:=by
   intro e
   rw [e] at h
   simp at h
  have hall : ∀ c ∈ w,yI c = true:=fun c hc => zJz (by
   have:=h.2
   rw [List.any_eq_false] at this
   simpa using this c hc)
  exact (Sq hs w hne hall hp hst hb hw).mono (by omega)
 ·rename_i h
  rw [if_neg h] at hp
  have:=zGw hs w.length w (n:=n) (out:=out) (inn:=inn) (word:=word) (beg:=beg) (rest:=rest) (Nat.le_refl _) (by rw [hp]; simp) hst hb hw
  rw [show ([39] ++ bT 39 qt w ++ [39] : List UInt8).length = (bT 39 qt w).length + 2 by simp]
  simpa [Nat.add_assoc] using this
omit hs in
theorem Sr {m : Nat} (hm : 0 < m) (hst : stage.length <= 1000) (ho : out.length <= 1000) (hne : kU inn stage word ≠ []) :
  fix (aS n) m (s,out,inn,(s.length : Int),stage,beg,word,()) = iB n (out ++ [kU inn stage word],(s.length : Int),beg,()):=by
 rw [bU hm,aS]
 simp only
 rw [aR (by simp),wP (by omega),gH]
 simp only
 have he : (if inn = true then stage ++ [fH word] else stage) = kU inn stage word:=rfl
 simp only [he]
 have hp : 0 < (kU inn stage word).length:=List.length_pos_iff.2 hne
 rw [bJ (decide_eq_true (by omega)),aL (by simp [room]; omega),nQ]
omit hs in
theorem zGx {m : Nat} (hm : 0 < m) (he : kU inn stage word = []) (hst : stage.length <= 1000) :
  fix (aS n) m (s,[],inn,(s.length : Int),stage,beg,word,()) = iB n ([],(s.length : Int),beg,()):=by
 rw [bU hm,aS]
 simp only
 rw [aR (by simp),wP (by omega),gH]
 simp only
 have he' : (if inn = true then stage ++ [fH word] else stage) = kU inn stage word:=rfl
 simp only [he',he]
 rw [aR (by simp),aR (by simp),nQ]
end
end Go.Dec
namespace Go.Dec
set_option linter.unusedSimpArgs false
theorem yK {st : List (List UInt8)} {w : List UInt8} : kU true st (aI w) = st ++ [w]:=by simp [kU,zEi]
theorem mG {st : List (List UInt8)} {wd : List Int} : kU false st wd = st:=rfl
theorem Py {p : Int} {inn : Bool} {st : List (List UInt8)} {beg : List Int} (h : st ≠ []) : gL p inn st beg = beg:=by simp [gL,h]
theorem Yl {p : Int} {beg : List Int} : gL p false [] beg = beg ++ [p]:=by simp [gL]
theorem Sv {n b : Nat} {s : List UInt8} {y : WSt} (h : WGo n s b ([],false,0,[],[],[],()) y) (hb : b < n) : ∃ m,0 < m ∧ eD n s = fix (aS n) m (s,y):=by
 obtain ⟨k,hk,h⟩:=h
 refine ⟨n - k,by omega,?_⟩
 have:=h (n - k)
 rw [show n - k + k = n by omega] at this
 exact this
end Go.Dec
namespace Go.Dec
set_option linter.unusedSimpArgs false
def rW : List (List UInt8) -> Nat
 | [] => 0
 | w :: r => 2 * w.length + 2 + rW r
theorem zVz {r : List (List UInt8)} (h : ∀ w ∈ r,w.length <= 100) : rW r <= 202 * r.length:=by
 induction r with
 | nil => simp [rW]
 | cons w r ih =>
  have h1:=h w (by simp)
  have h2:=ih (fun x hx => h x (by simp [hx]))
  simp only [rW,List.length_cons]
  omega
def tailW : List (List UInt8) -> List UInt8
 | [] => []
 | w :: r => 32 :: (qS w ++ tailW r)
theorem Sw (w : List UInt8) : ∀ r : List (List UInt8),dS (w :: r) = qS w ++ tailW r
 | [] => by simp [dS,eO,tailW]
 | v :: r => by
  have:=Sw v r
  simp only [dS,List.map_cons] at this ⊢
  simp [eO,tailW,this]
section
variable {n : Nat} {s : List UInt8} (hs : s.length <= 100000)
include hs
theorem zAz : ∀ (r : List (List UInt8)) {pre rest : List UInt8} {out : List (List (List UInt8))} {st : List (List UInt8)} {w0 : List UInt8} {beg : List Int},s = pre ++ (tailW r ++ rest) -> (∀ w ∈ r,w.length <= 100) -> st.length + r.length <= 900 -> beg.length <= 900 ->
  ∃ st' w',WGo n s (rW r) (out,true,(pre.length : Int),st,beg,aI w0,()) (out,true,((pre.length + (tailW r).length : Nat) : Int),st',beg,aI w',()) ∧ st' ++ [w'] = (st ++ [w0]) ++ r
 | [],pre,rest,out,st,w0,beg,_,_,_,_ => ⟨st,w0,by simpa [tailW] using WGo.refl _,by simp⟩
 | w :: r,pre,rest,out,st,w0,beg,hp,hw,hst,hb => by
  simp only [List.length_cons] at hst
  have h1:=Ay hs (n:=n) (out:=out) (inn:=true) (stage:=st) (beg:=beg) (word:=aI w0) (pre:=pre) (rest:=qS w ++ tailW r ++ rest) (c:=32) (by rw [hp]; simp [tailW]) (.inl rfl) (by omega)
  rw [yK] at h1
  have h2:=Px hs (n:=n) (out:=out) (inn:=false) (stage:=st ++ [w0]) (beg:=beg) (word:=[]) (w:=w) (pre:=pre ++ [32]) (rest:=tailW r ++ rest) (by rw [hp]; simp [tailW]) (by simp; omega) (by rw [Py (by simp)]; omega) (by have:=hw w (by simp); simp; omega)
  rw [Py (by simp),List.nil_append,show (pre ++ [32] : List UInt8).length = pre.length + 1 by simp] at h2
  obtain ⟨st',w',h3,h4⟩:=zAz r (pre:=pre ++ [32] ++ qS w) (rest:=rest) (out:=out) (st:=st ++ [w0]) (w0:=w) (beg:=beg) (by rw [hp]; simp [tailW]) (fun x hx => hw x (by simp [hx])) (by simp; omega) hb
  rw [show (pre ++ [32] ++ qS w : List UInt8).length = pre.length + 1 + (qS w).length by simp; omega] at h3
  refine ⟨st',w',?_,by rw [h4]; simp⟩
  have h:=((h1.trans h2).trans h3).mono (b:=rW (w :: r)) (by simp only [rW]; omega)
  rw [show pre.length + (tailW (w :: r)).length = pre.length + 1 + (qS w).length + (tailW r).length by simp [tailW]; omega]
  exact h
theorem zBa {ws : List (List UInt8)} {pre rest : List UInt8} {out : List (List (List UInt8))} {beg : List Int} (hp : s = pre ++ (dS ws ++ rest)) (hne : ws ≠ []) (hsm : fM ws) (hb : beg.length <= 800) :
  ∃ st' w',WGo n s (202 * ws.length) (out,false,(pre.length : Int),[],beg,[],()) (out,true,((pre.length + (dS ws).length : Nat) : Int),st',beg ++ [(pre.length : Int)],aI w',()) ∧ st' ++ [w'] = ws:=by
 obtain ⟨w,r,rfl⟩:=List.exists_cons_of_ne_nil hne
 rw [Sw] at hp ⊢
 have hw:=hsm.2
 have hl:=hsm.1
 simp only [List.length_cons] at hl
 have h1:=Px hs (n:=n) (out:=out) (inn:=false) (stage:=[]) (beg:=beg) (word:=[]) (w:=w) (pre:=pre) (rest:=tailW r ++ rest) (by rw [hp]; simp) (by simp) (by rw [Yl]; simp; omega) (by have:=hw w (by simp); simp; omega)
 rw [Yl,List.nil_append] at h1
 obtain ⟨st',w',h2,h3⟩:=zAz hs r (n:=n) (pre:=pre ++ qS w) (rest:=rest) (out:=out) (st:=[]) (w0:=w) (beg:=beg ++ [(pre.length : Int)]) (by rw [hp]; simp) (fun x hx => hw x (by simp [hx])) (by simp; omega) (by simp; omega)
 rw [show (pre ++ qS w : List UInt8).length = pre.length + (qS w).length by simp] at h2
 refine ⟨st',w',?_,by rw [h3]; simp⟩
 have hr:=zVz (r:=r) (fun x hx => hw x (by simp [hx]))
 have h:=(h1.trans h2).mono (b:=202 * (w :: r).length) (by have:=hw w (by simp); simp only [List.length_cons]; omega)
 rw [show pre.length + (qS w ++ tailW r).length = pre.length + (qS w).length + (tailW r).length by simp; omega]
 exact h
def jT : List (List (List UInt8)) -> List UInt8
 | [] => []
 | ws :: r => Ju ++ (dS ws ++ jT r)
omit hs in
theorem Nn (ws : List (List UInt8)) : ∀ r : List (List (List UInt8)),eO ((ws :: r).map dS) Ju = dS ws ++ jT r
 | [] => by simp [eO,jT]
 | v :: r => by
  have:=Nn v r
  simp only [List.map_cons] at this ⊢
  simp [eO,jT,this]
theorem Ym : ∀ (r : List (List (List UInt8))) {pre : List UInt8} {out : List (List (List UInt8))} {st : List (List UInt8)} {w0 : List UInt8} {beg : List Int},s = pre ++ jT r -> (∀ ws ∈ r,fM ws ∧ ws ≠ []) -> st.length <= 100 -> out.length + r.length <= 100 -> beg.length + r.length <= 700 ->
  ∃ out' st' w' sV,WGo n s (2500 * r.length) (out,true,(pre.length : Int),st,beg,aI w0,()) (out',true,(s.length : Int),st',sV,aI w',()) ∧ out' ++ [st' ++ [w']] = out ++ [st ++ [w0]] ++ r ∧ sV.length = beg.length + r.length
 | [],pre,out,st,w0,beg,hp,_,_,_,_ => by
  refine ⟨out,st,w0,beg,?_,by simp,by simp⟩
  rw [show s.length = pre.length by rw [hp]; simp [jT]]
  exact WGo.refl _
 | ws :: r,pre,out,st,w0,beg,hp,hr,hst,hol,hbl => by
  simp only [List.length_cons] at hol hbl
  have hsm:=hr ws (by simp)
  have h1:=Ay hs (n:=n) (out:=out) (inn:=true) (stage:=st) (beg:=beg) (word:=aI w0) (pre:=pre) (rest:=[124,32] ++ dS ws ++ jT r) (c:=32) (by rw [hp]; simp [jT]) (.inl rfl) (by omega)
  rw [yK] at h1
  have h2:=zGu hs (n:=n) (out:=out) (inn:=false) (stage:=st ++ [w0]) (beg:=beg) (word:=[]) (pre:=pre ++ [32]) (rest:=[32] ++ dS ws ++ jT r) (by rw [hp]; simp [jT]) (by simp; omega) (by omega) (by rw [mG]; simp)
  rw [mG,show (pre ++ [32] : List UInt8).length = pre.length + 1 by simp] at h2
  have h3:=Ay hs (n:=n) (out:=out ++ [st ++ [w0]]) (inn:=false) (stage:=[]) (beg:=beg) (word:=[]) (pre:=pre ++ [32,124]) (rest:=dS ws ++ jT r) (c:=32) (by rw [hp]; simp [jT]) (.inl rfl) (by simp)
  rw [mG,show (pre ++ [32,124] : List UInt8).length = pre.length + 1 + 1 by simp] at h3
  obtain ⟨st1,w1,h4,h5⟩:=zBa hs (n:=n) (ws:=ws) (pre:=pre ++ [32,124,32]) (rest:=jT r) (out:=out ++ [st ++ [w0]]) (beg:=beg) (by rw [hp]; simp [jT]) hsm.2 hsm.1 (by omega)
  rw [show (pre ++ [32,124,32] : List UInt8).length = pre.length + 1 + 1 + 1 by simp] at h4
  have zKb : st1.length <= 100:=by
   have:=congrArg List.length h5
   have h12:=hsm.1.1
   simp at this
   omega
  obtain ⟨out',st',w',sV,h6,h7,h8⟩:=Ym r (pre:=pre ++ [32,124,32] ++ dS ws) (out:=out ++ [st ++ [w0]]) (st:=st1) (w0:=w1) (beg:=beg ++ [((pre.length + 1 + 1 + 1 : Nat) : Int)]) (by rw [hp]; simp [jT]) (fun x hx => hr x (by simp [hx])) zKb (by simp; omega) (by simp; omega)
  rw [show (pre ++ [32,124,32] ++ dS ws : List UInt8).length = pre.length + 1 + 1 + 1 + (dS ws).length by simp; omega] at h6
  refine ⟨out',st',w',sV,?_,by rw [h7,h5]; simp,by rw [h8]; simp; omega⟩
  have h12:=hsm.1.1
  exact ((((h1.trans h2).trans h3).trans h4).trans h6).mono (by simp only [List.length_cons]; omega)
end
theorem Yn {ws : List (List UInt8)} (h : pV ws = true) : ∃ r,ws = [115,101,100] :: r:=by
 cases ws with
 | nil => cases h
 | cons w r =>
  simp only [pV,beq_iff_eq] at h
  exact ⟨r,by rw [h]⟩
theorem zEr {n : Nat} {l : List (List (List UInt8))} (hl : l.length <= 8) (hsm : ∀ ws ∈ l,fM ws) (hg : l.all pV = true) (hn : 30000 <= n) : eD n (eO (l.map dS) Ju) = some (l,0,0):=by
 have hg2 : ∀ ws ∈ l,∃ r,ws = [115,101,100] :: r:=fun ws h => Yn (List.all_eq_true.1 hg ws h)
 cases l with
 | nil =>
  show eD n [] = _
  have:=zGx (n:=n) (s:=[]) (inn:=false) (stage:=[]) (beg:=[]) (word:=[]) (m:=n) (by omega) rfl (by simp)
  unfold eD
  simp only [List.length_nil] at this ⊢
  rw [show ((0 : Nat) : Int) = 0 from rfl] at this
  rw [this]
  exact Po (by simp) (by simp; omega) (by simp) (by simp)
 | cons ws r =>
  have hlen:=Sl hl hsm Ju (by simp)
  rw [Nn] at hlen ⊢
  generalize hs : dS ws ++ jT r = s at hlen ⊢
  have hs0 : s.length <= 100000:=by omega
  simp only [List.length_cons] at hl
  obtain ⟨q,hq⟩:=hg2 ws (by simp)
  have hw:=hsm ws (by simp)
  obtain ⟨st1,w1,h1,h2⟩:=zBa hs0 (n:=n) (ws:=ws) (pre:=[]) (rest:=jT r) (out:=[]) (beg:=[]) (by rw [<- hs]; simp) (by rw [hq]; simp) hw (by simp)
  simp only [List.length_nil,Nat.zero_add,List.nil_append] at h1
  have zKb : st1.length <= 100:=by
   have:=congrArg List.length h2
   have:=hw.1
   simp at *
   omega
  obtain ⟨out',st',w',sV,h3,h4,h5⟩:=Ym hs0 (n:=n) r (pre:=dS ws) (out:=[]) (st:=st1) (w0:=w1) (beg:=[((0 : Nat) : Int)]) (by rw [<- hs]) (fun x hx => ⟨hsm x (by simp [hx]),by obtain ⟨q,hq⟩:=hg2 x (by simp [hx]); rw [hq]; simp⟩) zKb (by simp; omega) (by simp; omega)
  have hw1:=hw.1
  obtain ⟨m,hm,hr⟩:=Sv ((h1.trans h3)) (by omega)
  rw [hr]
  have hout : out' ++ [st' ++ [w']] = ws :: r:=by rw [h4,h2]; simp
  have hol : out'.length <= 100:=by
   have:=congrArg List.length hout
   simp at this
   omega
  have zYh : st'.length <= 100:=by
   have hm : st' ++ [w'] ∈ (ws :: r):=by rw [<- hout]; simp
   have:=(hsm _ hm).1
   simp at this
   omega
  rw [Sr hm (by omega) (by omega) (by rw [yK]; simp),yK,hout]
  refine Po (by simp; omega) (by simp; omega) ?_ hg2
  rw [h5]
  simp
  omega
theorem zKc {n : Nat} {l : List (List (List UInt8))} {i : Nat} {ws : List (List UInt8)} (hi : i < l.length) (hl : l.length <= 1000) (hg : aN (Ty.dflt (.slice .str)) l (i : Int) = ws) (hw : ws.length <= 1000) (g0 : List (List (List UInt8)) × List (List (List UInt8)) × Int × Unit -> Option Bool) :
  ∀ (r pre : List (List UInt8)) (m : Nat),ws = pre ++ r -> r.length < m -> fix (kW n g0) m (l,l,(i : Int),(pre.length : Int),()) = g0 (l,l,(i : Int) + 1,()):=by
 intro r
 induction r with
 | nil =>
  intro pre m hp hm
  have hp : pre = ws:=by simpa using hp.symm
  subst hp
  rw [bU (by omega),kW]
  simp only
  rw [aL (eZ hi),hg,aR (by simp),fZ (by omega) (by omega)]
 | cons c r ih =>
  intro pre m hp hm
  have hm' : r.length + 1 < m:=hm
  have hlen : ws.length = pre.length + r.length + 1:=by rw [hp]; simp; omega
  have h:=ih (pre ++ [c]) (m - 1) (by rw [hp]; simp) (by omega)
  rw [show ((pre ++ [c]).length : Int) = (pre.length : Int) + 1 by simp] at h
  have hc : aN (Ty.dflt .str) ws (pre.length : Int) = c:=dO hp
  rw [bU (by omega),kW]
  simp only
  rw [aL (eZ hi),hg,bJ (decide_eq_true (by omega)),aL (eZ hi),aL (eZ (by omega)),aL (eZ hi),aL (eZ (by omega)),hc,aR (by simp),fZ (by omega) (by omega)]
  exact h
theorem zKd {n : Nat} {l : List (List (List UInt8))} (hl : l.length <= 1000) (hw : ∀ ws ∈ l,ws.length <= 1000 ∧ ws.length < n) : ∀ (r pre : List (List (List UInt8))) (m : Nat),l = pre ++ r -> r.length < m -> fix (jC n) m (l,l,(pre.length : Int),()) = some true:=by
 intro r
 induction r with
 | nil =>
  intro pre m hp hm
  have hp : pre = l:=by simpa using hp.symm
  subst hp
  rw [bU (by omega),jC]
  simp only
  rw [aR (by simp)]
 | cons ws r ih =>
  intro pre m hp hm
  have hm' : r.length + 1 < m:=hm
  have hlen : l.length = pre.length + r.length + 1:=by rw [hp]; simp; omega
  have h:=ih (pre ++ [ws]) (m - 1) (by rw [hp]; simp) (by omega)
  rw [show ((pre ++ [ws]).length : Int) = (pre.length : Int) + 1 by simp] at h
  have hc : aN (Ty.dflt (.slice .str)) l (pre.length : Int) = ws:=dO hp
  have hb:=hw ws (by rw [hp]; simp)
  rw [bU (by omega),jC]
  simp only
  rw [bJ (decide_eq_true (by omega)),aL (eZ (by omega)),aL (eZ (by omega)),hc,aR (by simp)]
  have h1:=zKc (n:=n) (i:=pre.length) (by omega) hl hc hb.1 (fix (jC n) (m - 1)) ws [] n rfl hb.2
  simp only [List.length_nil] at h1
  rw [show ((0 : Nat) : Int) = 0 from rfl] at h1
  rw [h1,h]
theorem same_eq {n : Nat} {l : List (List (List UInt8))} (hl : l.length <= 8) (hsm : ∀ ws ∈ l,fM ws) (hn : 1000 <= n) : pU n (l,l) = some true:=by
 unfold pU
 simp only
 rw [aR (by simp)]
 exact zKd (by omega) (fun ws h => by have:=(hsm ws h).1; omega) l [] n rfl (by omega)
theorem zEs {n : Nat} {l : List (List (List UInt8))} (hl : l.length <= maxLen) (hls : ∀ ws ∈ l,ws.length <= maxLen) (hn : pW l < n) : lD n (l,[]) = some false ∨ (lD n (l,[]) = some true ∧ l.length <= 8 ∧ ∀ ws ∈ l,fM ws) :=
 zVy hl hls hn l [] n rfl (by have:=Sn l; omega) (by simp)
theorem zKe {n : Nat} (hn : 2000 <= n) {l : List (List (List UInt8))} (hl : l.length <= 8) (hs : ∀ ws ∈ l,fM ws) : uM n l = some (if l.all pV = true then (eO (l.map dS) Ju,0) else ([],1)) :=
 zVx hn hl hs l [] n rfl (by omega)
end Go.Dec
namespace Go.Dec
set_option linter.unusedSimpArgs false
def Blk (b : List UInt8) : Prop:=b ≠ [] ∧ b.length <= 3 ∧ ∀ c ∈ b,c = 32 ∨ c = 9
inductive BW : List (List UInt8) -> List UInt8 -> Prop
 | nil : BW [] []
 | snoc {ws : List (List UInt8)} {t w b : List UInt8} : BW ws t -> Blk b -> BW (ws ++ [w]) (t ++ (b ++ (qS w ++ b)))
inductive BL : List (List (List UInt8)) -> List UInt8 -> Prop
 | one {ws : List (List UInt8)} {t : List UInt8} : BW ws t -> BL [ws] t
 | snoc {l : List (List (List UInt8))} {ws : List (List UInt8)} {t u : List UInt8} : BL l t -> BW ws u -> BL (l ++ [ws]) (t ++ (124 :: u))
theorem Yo {ws : List (List UInt8)} {t : List UInt8} (h : BW ws t) (hw : ∀ w ∈ ws,w.length <= 100) : t.length <= 408 * ws.length:=by
 induction h with
 | nil => simp
 | @snoc ws t w b _ hb ih =>
  have h1:=ih (fun x hx => hw x (by simp [hx]))
  have h2:=hw w (by simp)
  have h3:=Yk w
  have h4:=hb.2.1
  simp only [List.length_append,List.length_cons,List.length_nil]
  omega
theorem zGy {l : List (List (List UInt8))} {t : List UInt8} (h : BL l t) (hs : ∀ ws ∈ l,fM ws) : t.length <= 4900 * l.length:=by
 induction h with
 | @one ws t hw =>
  have h1:=hs ws (by simp)
  have:=Yo hw h1.2
  have:=h1.1
  simp only [List.length_cons,List.length_nil]
  omega
 | @snoc l ws t u _ hw ih =>
  have h1:=hs ws (by simp)
  have h2:=Yo hw h1.2
  have h3:=h1.1
  have h4:=ih (fun x hx => hs x (by simp [hx]))
  simp only [List.length_append,List.length_cons,List.length_nil]
  omega
section
variable {n : Nat} {s : List UInt8} (hs : s.length <= 100000)
include hs
theorem Ei : ∀ (b : List UInt8) {pre rest : List UInt8} {out : List (List (List UInt8))} {inn : Bool} {stage : List (List UInt8)} {beg word : List Int},b ≠ [] -> (∀ c ∈ b,c = 32 ∨ c = 9) -> s = pre ++ (b ++ rest) -> (kU inn stage word).length <= 1000 ->
  WGo n s b.length (out,inn,(pre.length : Int),stage,beg,word,()) (out,false,((pre.length + b.length : Nat) : Int),kU inn stage word,beg,[],())
 | [],_,_,_,_,_,_,_,h,_,_,_ => absurd rfl h
 | c :: b,pre,rest,out,inn,stage,beg,word,_,hc,hp,hst => by
  have hle : stage.length <= 1000:=by
   have : stage.length <= (kU inn stage word).length:=by unfold kU; split <;> simp
   omega
  have h1:=Ay hs (n:=n) (out:=out) (inn:=inn) (stage:=stage) (beg:=beg) (word:=word) (pre:=pre) (rest:=b ++ rest) (c:=c) (by rw [hp]; simp) (hc c (by simp)) hle
  cases b with
  | nil => simpa using h1
  | cons d b =>
   have h2:=Ei (d :: b) (pre:=pre ++ [c]) (rest:=rest) (out:=out) (inn:=false) (stage:=kU inn stage word) (beg:=beg) (word:=[]) (by simp) (fun x hx => hc x (by simp [hx])) (by rw [hp]; simp) (by rw [mG]; exact hst)
   rw [mG,show (pre ++ [c]).length = pre.length + 1 by simp] at h2
   rw [show pre.length + (c :: d :: b).length = pre.length + 1 + (d :: b).length by simp; omega]
   exact (h1.trans h2).mono (by simp; omega)
theorem zLb {ws : List (List UInt8)} {t : List UInt8} (h : BW ws t) : ∀ {pre rest : List UInt8} {out : List (List (List UInt8))} {beg : List Int},s = pre ++ (t ++ rest) -> (∀ w ∈ ws,w.length <= 100) -> ws.length <= 100 -> beg.length <= 800 ->
  ∃ sV,WGo n s (207 * ws.length) (out,false,(pre.length : Int),[],beg,[],()) (out,false,((pre.length + t.length : Nat) : Int),ws,sV,[],()) ∧ sV.length = beg.length + (if ws = [] then 0 else 1):=by
 induction h with
 | nil =>
  intro pre rest out beg hp hw hl hb
  exact ⟨beg,by simpa using WGo.refl _,by simp⟩
 | @snoc ws t w b hws hbk ih =>
  intro pre rest out beg hp hw hl hb
  simp only [List.length_append,List.length_cons,List.length_nil] at hl
  obtain ⟨Pz,h1,h2⟩:=ih (pre:=pre) (rest:=b ++ (qS w ++ b) ++ rest) (out:=out) (beg:=beg) (by rw [hp]; simp) (fun x hx => hw x (by simp [hx])) (by omega) hb
  have hb1 : Pz.length <= 801:=by rw [h2]; split <;> omega
  have h3:=Ei hs b (n:=n) (pre:=pre ++ t) (rest:=qS w ++ b ++ rest) (out:=out) (inn:=false) (stage:=ws) (beg:=Pz) (word:=[]) hbk.1 hbk.2.2 (by rw [hp]; simp) (by rw [mG]; omega)
  rw [mG,show (pre ++ t).length = pre.length + t.length by simp] at h3
  have hbs : (gL ((pre ++ t ++ b).length : Int) false ws Pz).length <= 802:=by unfold gL; split <;> (try simp) <;> omega
  have hww:=hw w (by simp)
  have h4:=Px hs (n:=n) (out:=out) (inn:=false) (stage:=ws) (beg:=Pz) (word:=[]) (w:=w) (pre:=pre ++ t ++ b) (rest:=b ++ rest) (by rw [hp]; simp) (by omega) (by omega) (by simp; omega)
  rw [List.nil_append,show (pre ++ t ++ b).length = pre.length + t.length + b.length by simp; omega] at h4
  have h5:=Ei hs b (n:=n) (pre:=pre ++ t ++ b ++ qS w) (rest:=rest) (out:=out) (inn:=true) (stage:=ws) (beg:=gL ((pre.length + t.length + b.length : Nat) : Int) false ws Pz) (word:=aI w) hbk.1 hbk.2.2 (by rw [hp]; simp) (by rw [yK]; simp; omega)
  rw [yK,show (pre ++ t ++ b ++ qS w).length = pre.length + t.length + b.length + (qS w).length by simp; omega] at h5
  have hb3:=hbk.2.1
  refine ⟨gL ((pre.length + t.length + b.length : Nat) : Int) false ws Pz,?_,?_⟩
  ·have h:=(((h1.trans h3).trans h4).trans h5).mono (b:=207 * (ws ++ [w]).length) (by simp only [List.length_append,List.length_cons,List.length_nil]; omega)
   rw [show pre.length + (t ++ (b ++ (qS w ++ b))).length = pre.length + t.length + b.length + (qS w).length + b.length by simp; omega]
   exact h
  ·have hne : ¬ (ws ++ [w] = []):=by simp
   rw [if_neg hne]
   by_cases he : ws = []
   ·subst he
    rw [Yl]
    simp [h2]
   ·rw [Py he,h2,if_neg he]
theorem zWa {l : List (List (List UInt8))} {t : List UInt8} (h : BL l t) : ∀ {rest : List UInt8},s = t ++ rest -> (∀ ws ∈ l,fM ws ∧ ws ≠ []) -> l.length <= 100 ->
  ∃ out ws beg,WGo n s (2500 * l.length) ([],false,0,[],[],[],()) (out,false,(t.length : Int),ws,beg,[],()) ∧ out ++ [ws] = l ∧ beg.length = l.length:=by
 induction h with
 | @one ws t hw =>
  intro rest hp hsm hl
  have h0:=hsm ws (by simp)
  have h12:=h0.1.1
  obtain ⟨sV,h1,h2⟩:=zLb hs (n:=n) hw (pre:=[]) (rest:=rest) (out:=[]) (beg:=[]) (by simpa using hp) h0.1.2 (by omega) (by simp)
  rw [if_neg h0.2] at h2
  simp only [List.length_nil,Nat.zero_add] at h1 h2
  exact ⟨[],ws,sV,h1.mono (by simp only [List.length_cons,List.length_nil]; omega),rfl,by rw [h2]; rfl⟩
 | @snoc l ws t u hlt hw ih =>
  intro rest hp hsm hl
  simp only [List.length_append,List.length_cons,List.length_nil] at hl
  have h0:=hsm ws (by simp)
  have h12:=h0.1.1
  obtain ⟨out,ws0,beg,h1,h2,h3⟩:=ih (rest:=124 :: u ++ rest) (by rw [hp]; simp) (fun x hx => hsm x (by simp [hx])) (by omega)
  have hmem : ws0 ∈ l:=by rw [<- h2]; simp
  have hw0:=hsm ws0 (by simp [hmem])
  have hol : out.length <= 100:=by
   have:=congrArg List.length h2
   simp at this
   omega
  have zYi:=hw0.1.1
  have h4:=zGu hs (n:=n) (out:=out) (inn:=false) (stage:=ws0) (beg:=beg) (word:=[]) (pre:=t) (rest:=u ++ rest) (by rw [hp]; simp) (by omega) (by omega) (by rw [mG]; exact hw0.2)
  rw [mG] at h4
  obtain ⟨sV,h5,h6⟩:=zLb hs (n:=n) hw (pre:=t ++ [124]) (rest:=rest) (out:=out ++ [ws0]) (beg:=beg) (by rw [hp]; simp) h0.1.2 (by omega) (by omega)
  rw [show (t ++ [124] : List UInt8).length = t.length + 1 by simp] at h5
  rw [if_neg h0.2] at h6
  refine ⟨out ++ [ws0],ws,sV,?_,by rw [h2],by rw [h6,h3]; simp⟩
  have h:=((h1.trans h4).trans h5).mono (b:=2500 * (l ++ [ws]).length) (by simp only [List.length_append,List.length_cons,List.length_nil]; omega)
  rw [show (t ++ 124 :: u).length = t.length + 1 + u.length by simp; omega]
  exact h
end
theorem Yp {n : Nat} {l : List (List (List UInt8))} {t : List UInt8} (h : BL l t) (hl : l.length <= 8) (hsm : ∀ ws ∈ l,fM ws) (hg : l.all pV = true) (hn : 30000 <= n) : eD n t = some (l,0,0):=by
 have hg2 : ∀ ws ∈ l,∃ r,ws = [115,101,100] :: r:=fun ws h => Yn (List.all_eq_true.1 hg ws h)
 have hlen:=zGy h hsm
 have hs0 : t.length <= 100000:=by omega
 obtain ⟨out,ws,beg,h1,h2,h3⟩:=zWa hs0 (n:=n) h (rest:=[]) (by simp) (fun ws hw => ⟨hsm ws hw,by obtain ⟨q,hq⟩:=hg2 ws hw; rw [hq]; simp⟩) (by omega)
 obtain ⟨m,hm,hr⟩:=Sv h1 (by omega)
 have hmem : ws ∈ l:=by rw [<- h2]; simp
 have h12:=(hsm ws hmem).1
 have hol : out.length <= 100:=by
  have:=congrArg List.length h2
  simp at this
  omega
 obtain ⟨q,hq⟩:=hg2 ws hmem
 rw [hr,Sr hm (by omega) (by omega) (by rw [mG,hq]; simp),mG,h2]
 exact Po (by omega) (by omega) (by omega) hg2
theorem zGz {n : Nat} (hn : 30000 <= n) : eD n [] = some ([],0,0):=zEr (l:=[]) (by simp) (by simp) rfl hn
abbrev bks : List (List UInt8):=[[32],[9],[32,32],[32,9,32]]
theorem zUa {v : Int} (h : 0 <= v) : inB (Int.tmod v 4) 4 = true ∧ 0 + (Int.tmod v 4).toNat < 4 ∧ Blk (bks.getD (0 + (Int.tmod v 4).toNat) (Ty.dflt .str)):=by
 have h1 : Int.tmod v 4 = v % 4:=Int.tmod_eq_emod_of_nonneg h
 have h2 : 0 <= v % 4 ∧ v % 4 < 4:=⟨Int.emod_nonneg _ (by decide),Int.emod_lt_of_pos _ (by decide)⟩
 rw [h1]
 generalize v % 4 = k at h2
 have hk : k = 0 ∨ k = 1 ∨ k = 2 ∨ k = 3:=by omega
 rcases hk with rfl | rfl | rfl | rfl
 all_goals refine ⟨by decide,by decide,?_⟩
 all_goals refine ⟨by decide,by decide,?_⟩
 all_goals decide
theorem Sy {n : Nat} (hn : 2000 <= n) {l : List (List (List UInt8))} {bs : List Int} {i : Nat} {ws : List (List UInt8)} {s : List UInt8} (hi : i < l.length) (hl : l.length <= 8) (hg : aN (Ty.dflt (.slice .str)) l (i : Int) = ws) (hw : fM ws) (hs : s.length <= 50000) (hbs : ∀ b ∈ bs,0 <= b) (g0 : List (List (List UInt8)) × List Int × List UInt8 × Int × Int × Unit -> Option Bool) :
  ∀ (r pre : List (List UInt8)) (t : List UInt8) (a m : Nat),ws = pre ++ r -> BW pre t -> a + r.length <= 1000 -> r.length < m ->
   ∃ t',BW ws t' ∧ fix (dD n g0) m (l,bs,s ++ t,(a : Int),(i : Int),(pre.length : Int),()) = g0 (l,bs,s ++ t',((a + r.length : Nat) : Int),(i : Int) + 1,()):=by
 have hw1:=hw.1
 intro r
 induction r with
 | nil =>
  intro pre t a m hp ht ha hm
  have hp : pre = ws:=by simpa using hp.symm
  subst hp
  refine ⟨t,ht,?_⟩
  rw [bU (by omega),dD]
  simp only
  rw [aL (eZ hi),hg,aR (by simp),fZ (by omega) (by omega)]
  rfl
 | cons c r ih =>
  intro pre t a m hp ht ha hm
  simp only [List.length_cons] at ha
  have hm' : r.length + 1 < m:=hm
  have hlen : ws.length = pre.length + r.length + 1:=by rw [hp]; simp; omega
  have hc : c.length <= 100:=hw.2 c (by rw [hp]; simp)
  have hq:=Yk c
  have htl:=Yo ht (fun x hx => hw.2 x (by rw [hp]; simp [hx]))
  have hgc : aN (Ty.dflt .str) ws (pre.length : Int) = c:=dO hp
  have step : ∀ b : List UInt8,Blk b -> ∃ t',BW ws t' ∧ fix (dD n g0) (m - 1) (l,bs,((s ++ t) ++ b ++ qS c) ++ b,((a : Int) + 1),(i : Int),(pre.length : Int) + 1,()) = g0 (l,bs,s ++ t',((a + (c :: r).length : Nat) : Int),(i : Int) + 1,()):=by
   intro b hb
   obtain ⟨t',h1,h2⟩:=ih (pre ++ [c]) (t ++ (b ++ (qS c ++ b))) (a + 1) (m - 1) (by rw [hp]; simp) (.snoc ht hb) (by omega) (by omega)
   refine ⟨t',h1,?_⟩
   rw [show ((pre ++ [c]).length : Int) = (pre.length : Int) + 1 by simp,show ((a + 1 : Nat) : Int) = (a : Int) + 1 by omega] at h2
   rw [show ((s ++ t) ++ b ++ qS c) ++ b = s ++ (t ++ (b ++ (qS c ++ b))) by simp,h2]
   simp only [List.length_cons]
   rw [show a + 1 + r.length = a + (r.length + 1) by omega]
  rw [bU (by omega),dD]
  simp only
  rw [aL (eZ hi),hg,bJ (decide_eq_true (by omega))]
  by_cases hab : decide ((a : Int) < (bs.length : Int)) = true
  ·rw [bJ hab]
   have hab:=of_decide_eq_true hab
   have hv : 0 <= aN (Ty.dflt (.int .u8)) bs (a : Int):=by
    refine hbs _ ?_
    simp only [aN,Int.toNat_natCast,List.getD_eq_getElem?_getD]
    rw [List.getElem?_eq_getElem (by omega)]
    simp
   obtain ⟨b1,b2,b3⟩:=zUa hv
   rw [aL (eZ (by omega)),aL (by decide),aL (by simp only [List.length_cons,List.length_nil,Nat.zero_add,Nat.reduceAdd]; rw [b1]; rfl),aL (b:=decide (_ < _)) (decide_eq_true (by exact b2)),fZ (x:=(a : Int) + 1) (by omega) (by omega)]
   have b3 : Blk (([[32],[9],[32,32],[32,9,32]] : List (List UInt8)).getD (0 + (Int.tmod (aN (Ty.dflt (.int .u8)) bs (a : Int)) 4).toNat) (Ty.dflt .str)):=b3
   generalize ([[32],[9],[32,32],[32,9,32]] : List (List UInt8)).getD (0 + (Int.tmod (aN (Ty.dflt (.int .u8)) bs (a : Int)) 4).toNat) (Ty.dflt .str) = bk at b3
   have b4:=b3.2.1
   rw [aL (decide_eq_true (by simp only [bP,List.length_append]; omega)),aL (eZ hi),aL (eZ (by omega)),hgc,quote_eq (by omega) (by omega),gH]
   rw [aL (decide_eq_true (by simp only [bP,List.length_append]; omega)),aL (decide_eq_true (by simp only [bP,List.length_append]; omega)),fZ (by omega) (by omega)]
   exact step _ b3
  ·rw [aR (by simpa using hab),fZ (x:=(a : Int) + 1) (by omega) (by omega),aL (decide_eq_true (by simp [bP]; omega)),aL (eZ hi),aL (eZ (by omega)),hgc,quote_eq (by omega) (by omega),gH]
   rw [aL (decide_eq_true (by simp [bP]; omega)),aL (decide_eq_true (by simp [bP]; omega)),fZ (by omega) (by omega)]
   exact step [32] ⟨by simp,by simp,by simp⟩
theorem Yq (n : Nat) : mW n = dD n:=rfl
theorem zEt {n : Nat} (hn : 30000 <= n) {l : List (List (List UInt8))} {bs : List Int} (hl : l.length <= 8) (hsm : ∀ ws ∈ l,fM ws) (hg : l.all pV = true) (hbs : ∀ b ∈ bs,0 <= b) :
  ∀ (r pre : List (List (List UInt8))) (s : List UInt8) (a m : Nat),l = pre ++ r -> ((pre = [] ∧ s = []) ∨ BL pre s) -> a + 12 * r.length <= 900 -> r.length < m -> fix (dF n) m (l,bs,s,(a : Int),(pre.length : Int),()) = some true:=by
 intro r
 induction r with
 | nil =>
  intro pre s a m hp hpre ha hm
  have hp : pre = l:=by simpa using hp.symm
  subst hp
  rw [bU (by omega),dF]
  simp only
  have hw : eD n s = some (pre,0,0):=by
   rcases hpre with ⟨rfl,rfl⟩ | h
   ·exact zGz hn
   ·exact Yp h hl hsm hg hn
  rw [aR (by simp),hw,gH]
  simp only
  rw [bJ (by rfl),same_eq hl hsm (by omega),gH]
 | cons ws r ih =>
  intro pre s a m hp hpre ha hm
  simp only [List.length_cons] at ha
  have hm' : r.length + 1 < m:=hm
  have hlen : l.length = pre.length + r.length + 1:=by rw [hp]; simp; omega
  have hw : fM ws:=hsm ws (by rw [hp]; simp)
  have hw1:=hw.1
  have hgw : aN (Ty.dflt (.slice .str)) l (pre.length : Int) = ws:=dO hp
  rw [bU (by omega),dF]
  simp only
  rw [bJ (decide_eq_true (by omega))]
  rcases hpre with ⟨rfl,rfl⟩ | h
  ·rw [aR (by simp),Yq]
   obtain ⟨t',h1,h2⟩:=Sy (n:=n) (by omega) (bs:=bs) (i:=0) (s:=[]) (by omega) hl hgw hw (by simp) hbs (fix (dF n) (m - 1)) ws [] [] a n rfl .nil (by omega) (by omega)
   simp only [List.nil_append,List.length_nil] at h2 ⊢
   rw [show ((0 : Nat) : Int) = 0 from rfl] at h2 ⊢
   rw [h2]
   have h3:=ih [ws] t' (a + ws.length) (m - 1) (by rw [hp]; simp) (.inr (.one h1)) (by omega) (by omega)
   simpa using h3
  ·have hpl : 0 < pre.length:=by cases h <;> simp
   have hsl:=zGy h (fun x hx => hsm x (by rw [hp]; simp [hx]))
   rw [bJ (decide_eq_true (by omega)),aL (decide_eq_true (by simp [bP]; omega))]
   obtain ⟨t',h1,h2⟩:=Sy (n:=n) (by omega) (bs:=bs) (i:=pre.length) (s:=s ++ [124]) (by omega) hl hgw hw (by simp; omega) hbs (fix (dF n) (m - 1)) ws [] [] a n rfl .nil (by omega) (by omega)
   simp only [List.append_nil,List.length_nil] at h2
   rw [show ((0 : Nat) : Int) = 0 from rfl] at h2
   rw [h2]
   have h3:=ih (pre ++ [ws]) (s ++ (124 :: t')) (a + ws.length) (m - 1) (by rw [hp]; simp) (.inr (.snoc h h1)) (by omega) (by omega)
   rw [show ((pre ++ [ws]).length : Int) = (pre.length : Int) + 1 by simp] at h3
   rw [show s ++ [124] ++ t' = s ++ (124 :: t') by simp]
   exact h3
def nA (x : List (List (List UInt8)) × List Int) : Option Bool:=nZ (30000 + pW x.1) x
theorem wV (x : List (List (List UInt8)) × List Int) (h : Kz [.slice (.slice .str),.slice (.int .u8)] x) : nA x = some true:=by
 obtain ⟨l,bs⟩:=x
 have hwf : l.length <= maxLen ∧ ∀ ws ∈ l,ws.length <= maxLen:=⟨h.1.1,fun ws hw => (h.1.2 ws hw).1⟩
 have hbs : ∀ b ∈ bs,0 <= b:=fun b hb => by
  have h0 : IntKind.min .u8 <= b:=(h.2.2 b hb).1
  exact h0
 unfold nA nZ
 simp only
 generalize hn : 30000 + pW l = n
 rcases zEs (n:=n) hwf.1 hwf.2 (by omega) with hb | ⟨hb,h8,hsm⟩
 ·rw [hb,gH,bJ (b:=!false) rfl]; rfl
 ·rw [hb,gH,aR (b:=!true) rfl]
  by_cases h1 : decide ((bs.length : Int) > 100) = true
  ·rw [bJ h1]; rfl
  ·rw [aR (by simpa using h1),show shown21 n () = some true from rfl,gH,aR (b:=!true) rfl,zKe (by omega) h8 hsm,gH]
   by_cases hg : l.all pV = true
   ·rw [if_pos hg]
    simp only
    rw [aR (by rfl)]
    exact zEt (by omega) h8 hsm hg hbs l [] [] 0 n rfl (.inl ⟨rfl,rfl⟩) (by omega) (by omega)
   ·rw [if_neg hg]
    simp only
    rw [bJ (by rfl)]
    rfl
end Go.Dec
