/- Part of a proof over this seat: a library of my own, and what it says of this seat. No statement is proved here. -/
import Derived.Test.YtmpoakdpdflfgaaGreatDoorPartBR
import Derived.Test.YtmpoakdpdflfgaaGreatDoorPartBA
namespace Go.Dec
def oQ : List Line -> Prop
 | [] => True
 | e :: r => (r = [] ∨ e.2.1 = true) ∧ oQ r
theorem lS : ∀ (r w : List UInt8),oQ (eO w r)
 | [],w => by cases w <;> simp [eO,oQ]
 | c :: r,w => by
  unfold eO
  split
  ·exact ⟨.inr rfl,lS r []⟩
  ·exact lS r _
theorem Yt : ∀ (l : List Line) (i : Nat) (d : Line),oQ l -> i + 1 < l.length -> (l.getD i d).2.1 = true
 | [],i,d,_,h => by simp at h
 | e :: r,0,d,⟨h1,_⟩,h => by
  rcases h1 with h1 | h1
  ·subst h1; simp at h
  ·simpa using h1
 | e :: r,i + 1,d,⟨_,h2⟩,h => by
  have:=Yt r i d h2 (by simp at h; omega)
  simpa using this
theorem zEh {l : List Line} {i : Nat} {d : Line} (h : oQ l) (hi : i + 1 < l.length) : l.set i ((l.getD i d).1,(true,())) = l:=by
 have h1:=Yt l i d h hi
 have h2 : (((l.getD i d).1,(true,())) : Line) = l[i]:=by
  have h3 : l.getD i d = l[i]:=by simp [List.getD_eq_getElem?_getD,List.getElem?_eq_getElem (show i < l.length by omega)]
  rw [h3] at h1 ⊢
  rw [<- h1]
 rw [h2,List.set_getElem_self]
theorem Wy {n : Nat} {l : List Line} (h : oQ l) (hl : l.length <= 1000) (st k : Int) (hk : k < l.length) : ∀ (j : Nat) (i m : Nat),i + j = k.toNat -> j < m ->
  fix (fT n) m (st,k,(i : Int),l,()) = some (l,st)
 | 0,i,m,hi,hm => by
  rw [eH (by omega),fT]
  simp only
  rw [dI (decide_eq_false (by omega))]
 | j + 1,i,m,hi,hm => by
  rw [eH (by omega),fT]
  simp only
  rw [fJ (decide_eq_true (by omega)),gD (by rw [zPj (by omega)]; simp),gD (decide_eq_true (by simp; omega)),tO (by omega) (by omega)]
  rw [show 0 + ((i : Nat) : Int).toNat = i by simp,zEh h (by omega)]
  have:=Wy (n:=n) h hl st k hk j (i + 1) (m - 1) (by omega) (by omega)
  rwa [show ((i + 1 : Nat) : Int) = (i : Int) + 1 by simp] at this
theorem Pj {n : Nat} {l : List Line} (h : oQ l) (hl : l.length <= 1000) (st k : Int) (hk : k < l.length) : ∀ (j : Nat) (i m : Nat),i + j = k.toNat -> j < m ->
  fix (eP n) m (st,k,(i : Int),l,()) = some (l,st)
 | 0,i,m,hi,hm => by
  rw [eH (by omega),eP]
  simp only
  rw [dI (decide_eq_false (by omega))]
 | j + 1,i,m,hi,hm => by
  rw [eH (by omega),eP]
  simp only
  rw [fJ (decide_eq_true (by omega)),gD (by rw [zPj (by omega)]; simp),gD (decide_eq_true (by simp; omega)),tO (by omega) (by omega)]
  rw [show 0 + ((i : Nat) : Int).toNat = i by simp,zEh h (by omega)]
  have:=Pj (n:=n) h hl st k hk j (i + 1) (m - 1) (by omega) (by omega)
  rwa [show ((i + 1 : Nat) : Int) = (i : Int) + 1 by simp] at this
theorem zNp {n : Nat} {l : List Line} (h : oQ l) (hl : l.length <= 1000) (hn : 1500 <= n) (st : Int) :
  fix (fT n) n (st,(if IntKind.wrap .i64 (((l.length : Nat) : Int) - 1) > 0 then IntKind.wrap .i64 (((l.length : Nat) : Int) - 1) else 0),0,l,()) = some (l,st):=by
 rcases Nat.eq_zero_or_pos l.length with h0 | h0
 ·have h1 : l = []:=List.length_eq_zero_iff.1 h0
  subst h1
  rw [tO (by simp) (by simp),if_neg (by simp),eH (by omega),fT]
  simp only
  rw [dI (decide_eq_false (by omega))]
 ·rw [tO (by omega) (by omega)]
  split
  ·exact Wy h hl st _ (by omega) _ 0 n (Nat.zero_add _) (by omega)
  ·exact Wy h hl st 0 (by omega) 0 0 n (by simp) (by omega)
theorem zKs {n : Nat} {l : List Line} (h : oQ l) (hl : l.length <= 1000) (hn : 1500 <= n) (st : Int) :
  fix (eP n) n (st,(if IntKind.wrap .i64 (((l.length : Nat) : Int) - 1) > 0 then IntKind.wrap .i64 (((l.length : Nat) : Int) - 1) else 0),0,l,()) = some (l,st):=by
 rcases Nat.eq_zero_or_pos l.length with h0 | h0
 ·have h1 : l = []:=List.length_eq_zero_iff.1 h0
  subst h1
  rw [tO (by simp) (by simp),if_neg (by simp),eH (by omega),eP]
  simp only
  rw [dI (decide_eq_false (by omega))]
 ·rw [tO (by omega) (by omega)]
  split
  ·exact Pj h hl st _ (by omega) _ 0 n (Nat.zero_add _) (by omega)
  ·exact Pj h hl st 0 (by omega) 0 0 n (by simp) (by omega)
theorem Yu {n : Nat} {t : List UInt8} (h : t.length <= 400) : fK n (t,()) = some (aM t,()):=by
 unfold fK
 rw [gD (decide_eq_true (by simp; omega))]
theorem zNq {n : Nat} (hn : 1500 <= n) {t : List UInt8} (h : t.length <= 400) (q : Bool) (tb : List lH) :
  iQ n ((jK [],q,[],false,()),t,tb) = some (aM t,0):=by
 have h2:=kZ t []
 unfold iQ
 simp only
 rw [zIg,fJ (by rfl),Yu h,iM,eH (by omega),vI]
 simp only
 rw [dI (by rfl)]
 exact zNp (l:=aM t) (lS t []) (by simp only [aM]; omega) hn 0
theorem zZz {n : Nat} (hn : 0 < n) (t : List UInt8) : mV n ([([102],t,())],[102]) = some (t,true):=by
 cases n with
 | zero => omega
 | succ n => rfl
theorem zUn {n : Nat} (hn : 1500 <= n) {t : List UInt8} (h : t.length <= 400) (q : Bool) (s : List UInt8) :
  iQ n ((jK [],q,[[102]],false,()),s,[([102],t,())]) = some (aM t,0):=by
 have h2:=kZ t []
 unfold iQ
 simp only
 rw [zIg,dI (by rfl),eH (by omega),mW]
 simp only
 rw [fJ (by rfl),gD (by rfl),show bZ (Ty.dflt .str) [[102]] 0 = [102] from rfl,zZz (by omega),iM,dI (by rfl),Yu h,iM,gD (by simp [room,aM]; omega),eH (by omega),mW]
 simp only
 rw [dI (by rfl)]
 exact zKs (l:=[] ++ aM t) (by exact lS t []) (by simp only [aM,List.nil_append]; omega) hn 0
def nG : List UInt8 -> List Line -> List UInt8
 | _,[] => []
 | g,e :: r => g ++ e.1 ++ (if e.2.1 then [10] ++ nG [] r else nG [10] r)
def lM : List Line -> Nat
 | [] => 0
 | e :: r => e.1.length + 1 + lM r
theorem Pk : ∀ (a b : List Line),lM (a ++ b) = lM a + lM b
 | [],b => by simp [lM]
 | e :: a,b => by simp only [List.cons_append,lM,Pk a b]; omega
theorem Yv : ∀ (l : List Line),lM l <= (joinL l).length + l.length
 | [] => by simp [lM]
 | e :: r => by
  have:=Yv r
  simp only [lM,joinL,List.flatMap_cons,List.length_append,Qm,List.length_cons] at *
  omega
theorem Mj : ∀ (l : List Line),oQ l -> nG [] l = joinL l
 | [],_ => rfl
 | e :: r,⟨h1,h2⟩ => by
  have ih:=Mj r h2
  simp only [nG,joinL,List.flatMap_cons,Qm,List.nil_append] at *
  cases he : e.2.1 with
  | true => simp [ih]
  | false =>
   rcases h1 with h1 | h1
   ·subst h1; simp [nG]
   ·rw [he] at h1; cases h1
theorem zSc {n : Nat} {s : List UInt8} {a : List UInt8} (h : a.length + s.length <= 1000000) : bM n (s,aN a,()) = some ((s.length : Int),false,aN (a ++ s),()):=by
 unfold bM pF
 simp only [iM]
 rw [gD (by simp only [zDd]; simp [room]; omega),Sb]
theorem zRf {n : Nat} {l : List Line} (hl : l.length <= 1000) (hs : lM l <= 10000) : ∀ (r pre : List Line) (g a : List UInt8) (m : Nat),l = pre ++ r -> r.length < m -> a.length + g.length <= lM pre ->
  fix (jE n) m (g,l,(l.length : Int),(pre.length : Int),aN a,()) = some (a ++ nG g r):=by
 intro r
 induction r with
 | nil =>
  intro pre g a m hp hm ha
  have hp : pre = l:=by simpa using hp.symm
  subst hp
  rw [eH (by omega),jE]
  simp only
  rw [dI (by simp),zFi]
  simp [nG]
 | cons e r ih =>
  intro pre g a m hp hm ha
  have hm' : r.length + 1 < m:=hm
  have hlen : l.length = pre.length + r.length + 1:=by rw [hp]; simp; omega
  have hsum : lM l = lM pre + (e.1.length + 1 + lM r):=by rw [hp,Pk]; rfl
  have hsp : lM (pre ++ [e]) = lM pre + (e.1.length + 1):=by rw [Pk]; simp [lM]
  have hi : ∀ (g' a' : List UInt8),a'.length + g'.length <= lM (pre ++ [e]) -> fix (jE n) (m - 1) (g',l,(l.length : Int),(pre.length : Int) + 1,aN a',()) = some (a' ++ nG g' r):=fun g' a' h1 => by
   have:=ih (pre ++ [e]) g' a' (m - 1) (by rw [hp]; simp) (by omega) h1
   rwa [show ((pre ++ [e]).length : Int) = (pre.length : Int) + 1 by simp] at this
  rw [eH (by omega),jE]
  simp only
  rw [fJ (decide_eq_true (by omega)),gD (zPj (by omega)),zMr hp,gD (decide_eq_true (by simp [Ac]; omega)),zSc (by simp; omega)]
  simp only [iM]
  cases he : e.2.1 with
  | true =>
   simp only [zVy]
   rw [zSc (by simp; omega)]
   simp only [iM]
   rw [tO (by omega) (by omega),hi _ _ (by simp; omega)]
   simp [nG,he]
  | false =>
   simp only [zIg]
   rw [tO (by omega) (by omega),hi _ _ (by simp; omega)]
   simp [nG,he]
theorem Mk {n : Nat} (hn : 1500 <= n) {t : List UInt8} (h : t.length <= 400) : iN n (aM t) = some t:=by
 have h2:=kZ t []
 have h3:=Yv (aM t)
 rw [xQ] at h3
 unfold iN
 have:=zRf (n:=n) (l:=aM t) (by simp only [aM]; omega) (by simp only [aM] at h3 ⊢; omega) (aM t) [] [] [] n rfl (by simp only [aM]; omega) (by simp [lM])
 have he : nG [] (aM t) = t:=by rw [Mj (aM t) (lS t []),xQ]
 rw [he] at this
 exact this
theorem zKt {n : Nat} (hn : 1500 <= n) : iN n [] = some []:=Mk hn (t:=[]) (by simp)
end Go.Dec
namespace Go.Dec
def Fa (q : Bool) (l : List Line) : List Line:=if q then [] else l
theorem zNr {n : Nat} (hn : 0 < n) (q : Bool) (N : Int) (l : Line) (last : Bool) (t : List lH) :
  mY n ((false,([],([],()))),q,(1,(0,(N,(0,((-1),(l.1,([],(l.2.1,(last,(false,([],([],())))))))))))),t) = some ((0,(0,(N,(0,((-1),(l.1,([],(l.2.1,(last,(false,([],([],())))))))))))),t,Fa q [l]):=by
 cases n with
 | zero => omega
 | succ n => cases q <;> rfl
theorem run_go {n : Nat} (hn : 0 < n) (q : Bool) (fs : List (List UInt8)) (t : List lH) : ∀ (ls : List Line) (l : Line) (N steps : Int) (row : List Line) (last : Bool) (m : Nat),
  2 * ls.length + 3 < m -> 0 <= steps -> steps + 1 + ls.length <= 1000 -> row.length + ls.length <= 2000 ->
  fix (eD n) m (t,1000,ls,0,false,[],[],q,fs,false,[],0,steps,1,0,N,0,(-1),l.1,[],l.2.1,last,false,[],[],row,()) =
   some ((row ++ Fa q (l :: ls),(t,(0,(steps + 1 + ls.length,())))),0):=by
 intro ls
 induction ls with
 | nil =>
  intro l N steps row last m hm h0 h1 h2
  have hm : 3 < m:=by simpa using hm
  have h1 : steps + 1 <= 1000:=by simpa using h1
  have h2 : row.length <= 2000:=by simpa using h2
  rw [eH (by omega),eD]
  simp only
  rw [dI (by rfl),dI (by rfl),dI (decide_eq_false (by omega)),zNr hn,iM,gD (by cases q <;> simp [Fa,room] <;> omega),tO (by omega) (by omega)]
  rw [eH (by omega),eD]
  simp only
  rw [dI (by rfl),fJ (by rfl),fJ (by rfl),show ∀ N : Int,jW n (0,(0,(N,(0,((-1),(l.1,([],(l.2.1,(last,(false,([],([],())))))))))))) = some (4,(0,(N,(0,((-1),(l.1,([],(l.2.1,(last,(false,([],([],())))))))))))) from fun _ => rfl,iM]
  rw [eH (by omega),eD]
  simp only
  rw [fJ (by rfl),fJ (by rfl)]
  simp
 | cons e ls ih =>
  intro l N steps row last m hm h0 h1 h2
  have hm : 2 * (ls.length + 1) + 3 < m:=by simpa using hm
  have h1 : steps + 1 + (ls.length + 1) <= 1000:=by simpa using h1
  have h2 : row.length + (ls.length + 1) <= 2000:=by simpa using h2
  rw [eH (by omega),eD]
  simp only
  rw [dI (by rfl),dI (by rfl),dI (decide_eq_false (by omega)),zNr hn,iM,gD (by cases q <;> simp [Fa,room] <;> omega),tO (by omega) (by omega)]
  rw [eH (by omega),eD]
  simp only
  rw [dI (by rfl),fJ (by rfl),dI (by simp <;> omega),gD (zIh (by omega) (by simp <;> omega)),show bZ (Ty.dflt aT) (e :: ls) 0 = e from rfl,
   show ∀ (N : Int) (b : Bool),kS n ((0,(0,(N,(0,((-1),(l.1,([],(l.2.1,(last,(false,([],([],())))))))))))),e,b) = some (1,(0,(IntKind.wrap .i64 (N + 1),(0,((-1),(e.1,([],(e.2.1,(b,(false,([],([],())))))))))))) from fun _ _ => rfl,iM,gD (by simp <;> omega),
   show (e :: ls).drop (1 : Int).toNat = ls from rfl]
  rw [ih e _ _ _ _ _ (by omega) (by omega) (by omega) (by cases q <;> simp [Fa] <;> omega)]
  have : (((e :: ls).length : Nat) : Int) = (ls.length : Int) + 1:=by simp
  rw [this,show steps + 1 + 1 + (ls.length : Int) = steps + 1 + ((ls.length : Int) + 1) by omega]
  cases q <;> simp [Fa]
theorem run_eq {n : Nat} (hn : 1500 <= n) {q : Bool} {fs : List (List UInt8)} {s : List UInt8} {t : List lH} {L : List Line}
  (hB : iP n ((jK [],q,fs,false,()),t) = some t) (hL : iQ n ((jK [],q,fs,false,()),s,t) = some (L,0)) (hl : L.length <= 401) :
  qL n (((false,([],([],()))),(q,(fs,(false,())))),s,t,1000) = some ((Fa q L,(t,(0,((L.length : Int),())))),0):=by
 unfold qL
 simp only
 rw [dI (by rfl)]
 simp only [jK] at hB hL
 rw [hB,iM,hL,iM,show Er n (false,([],([],()))) = some (0,(0,(0,(0,((-1),([],([],(false,(false,(false,([],([],())))))))))))) from rfl,iM,dI (by rfl),fJ (by rfl)]
 cases L with
 | nil =>
  rw [fJ (by rfl),show jW n (0,(0,(0,(0,((-1),([],([],(false,(false,(false,([],([],())))))))))))) = some (4,(0,(0,(0,((-1),([],([],(false,(false,(false,([],([],())))))))))))) from rfl,iM,eH (by omega),zG]
  simp only
  rw [fJ (by rfl),fJ (by rfl)]
  cases q <;> rfl
 | cons e ls =>
  have hl : ls.length + 1 <= 401:=by simpa using hl
  simp only
  rw [dI (by simp <;> omega),gD (zIh (by omega) (by simp <;> omega)),show bZ (Ty.dflt aT) (e :: ls) 0 = e from rfl,
   show ∀ (b : Bool),kS n ((0,(0,(0,(0,((-1),([],([],(false,(false,(false,([],([],())))))))))))),e,b) = some (1,(0,(IntKind.wrap .i64 (0 + 1),(0,((-1),(e.1,([],(e.2.1,(b,(false,([],([],())))))))))))) from fun _ => rfl,iM,gD (by simp <;> omega),
   show (e :: ls).drop (1 : Int).toNat = ls from rfl]
  rw [run_go (by omega) q fs t ls e _ 0 [] _ n (by omega) (by omega) (by omega) (by simp; omega)]
  have : (((e :: ls).length : Nat) : Int) = 0 + 1 + (ls.length : Int):=by simp; omega
  rw [this,List.nil_append]
theorem zUo (n : Nat) (q : Bool) : iP n ((jK [],q,[],false,()),[]) = some []:=by
 unfold iP orF zDk
 rw [if_pos ⟨rfl,rfl,.inl ⟨rfl,rfl⟩⟩]
theorem zUp (n : Nat) (q : Bool) (t : List UInt8) : iP n ((jK [],q,[[102]],false,()),[([102],t,())]) = some [([102],t,())]:=by
 unfold iP orF zDk
 rw [if_pos ⟨rfl,rfl,.inr (.inl ⟨rfl,rfl⟩)⟩]
theorem yF (x : List UInt8 × Bool) : oG 2000 x = some true:=by
 obtain ⟨t,q⟩:=x
 unfold oG
 simp only
 by_cases h1 : decide ((t.length : Int) > 200) = true
 ·rw [fJ h1]; rfl
 ·rw [dI (by simpa using h1)]
  have h1 : ¬ (t.length : Int) > 200:=by simpa using h1
  have hl:=kZ t []
  rw [show shown16 2000 () = some true from rfl,iM,dI (b:=!true) rfl]
  rw [run_eq (by omega) (zUo _ q) (zNq (by omega) (by omega) q []) (by simp only [aM]; omega),iM,run_eq (by omega) (zUp _ q t) (zUn (by omega) (by omega) q _) (by simp only [aM]; omega),iM]
  have hs : lX 2000 t = some (aM t):=by unfold lX; rw [gD (decide_eq_true (by omega))]
  cases q with
  | true =>
   rw [zVy]
   simp only [Fa,if_true]
   rw [fJ (by rfl),fJ (by rfl),zKt (by omega),iM,fJ (by rfl),iM,fJ (by rfl),hs,iM]
   simp
  | false =>
   rw [zIg]
   simp only [Fa,Bool.false_eq_true,if_false]
   rw [fJ (by rfl),fJ (by rfl),Mk (by omega) (by omega),iM,fJ (by simp),iM,fJ (by simp),hs,iM]
   simp
end Go.Dec
