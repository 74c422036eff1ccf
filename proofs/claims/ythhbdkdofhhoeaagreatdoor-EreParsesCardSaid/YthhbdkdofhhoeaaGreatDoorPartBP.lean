/- Part of a proof over this seat: a library of my own, and what it says of this seat. No statement is proved here. -/
import Derived.Test.YthhbdkdofhhoeaaGreatDoorPartBO
namespace Go.Dec
theorem Wd {n:Nat} {r t:List UInt8}:strings_HasPrefix n (r,t)=some (t.isPrefixOf r):=by
 unfold strings_HasPrefix iF
 simp only
 by_cases h:t.length <= r.length
 ·rw [aK (by simp; omega),aD (by simp; omega)]
  simp only [aQ,Int.toNat_natCast]
  congr 1
  rw [Bool.eq_iff_iff,List.isPrefixOf_iff_prefix,List.prefix_iff_eq_take,beq_iff_eq]
  exact eq_comm
 ·rw [aF (by simp; omega)]
  simp only [aQ]
  congr 1
  symm
  rw [Bool.eq_false_iff,ne_eq,List.isPrefixOf_iff_prefix]
  intro hp
  have:=hp.length_le
  omega
theorem kQ {n:Nat} {s t:List UInt8} {i:Nat} (hi:i <= s.length):fF n (t,s,(i:Int),())=some (t.isPrefixOf (s.drop i),s,(i:Int),()):=by
 unfold fF
 simp only
 rw [aD (by simp; omega),Wd]; rfl
theorem iT {r t:List UInt8} (h:t.isPrefixOf r=true):t.length <= r.length:=by
 rw [List.isPrefixOf_iff_prefix] at h; exact h.length_le
theorem nQ {n:Nat} {s t:List UInt8} {i:Nat} (hi:i <= s.length) (hs:s.length < 1000000) (h:t.isPrefixOf (s.drop i)=true):eD n (t,s,(i:Int),())=some (true,s,((i+t.length:Nat):Int),()):=by
 have hl:=iT h
 rw [List.length_drop] at hl
 unfold eD
 simp only
 rw [kQ hi]
 simp only [aQ,h,Bool.not_true,bC]
 rw [bD (by omega) (by omega)]; rfl
theorem nR {n:Nat} {s t:List UInt8} {i:Nat} (hi:i <= s.length) (h:t.isPrefixOf (s.drop i)=false):eD n (t,s,(i:Int),())=some (false,s,(i:Int),()):=by
 unfold eD
 simp only
 rw [kQ hi]
 simp only [aQ,h,Bool.not_false,bV]
theorem eqI {c:UInt8} (k:UInt8):((c.toNat:Int) == (k.toNat:Int))=(k == c):=by
 rw [Bool.eq_iff_iff,beq_iff_eq,beq_iff_eq,Int.ofNat_inj,UInt8.toNat_inj]; exact eq_comm
theorem sV {s:List UInt8} {i j:Nat} {d c:UInt8} (h:(s.drop i)[j]?=some c):aU d s ((i+j:Nat):Int)=c:=by
 rw [List.getElem?_drop] at h
 unfold aU
 rw [Int.toNat_natCast,List.getD_eq_getElem?_getD,h]; rfl
theorem vR {s t:List UInt8} {i:Nat} {a:UInt8} (h:s.drop i=a :: t):s.drop (i+1)=t∧i < s.length:=by
 refine ⟨?_,?_⟩
 ·rw [<- List.drop_drop,h]; rfl
 ·have:=congrArg List.length h
  rw [List.length_drop,List.length_cons] at this; omega
theorem Md {r:List UInt8} {a b:UInt8} (h:[a,b].isPrefixOf r=true):∃ t,r=a :: b :: t:=by
 rw [List.isPrefixOf_iff_prefix] at h
 obtain ⟨t,rfl⟩:=h
 exact ⟨t,rfl⟩
theorem yJw {r:List UInt8} {a:UInt8} (h:[a].isPrefixOf r=true):∃ t,r=a :: t:=by
 rw [List.isPrefixOf_iff_prefix] at h
 obtain ⟨t,rfl⟩:=h
 exact ⟨t,rfl⟩
def sW (x:UInt8) (b:Bool):List UInt8->Option (UInt8 × Nat × Bool)
 | _ :: _ :: c :: t=>bif [x,93].isPrefixOf t then some (c,5,b) else none
 | _=>none
def qO (first ends:Bool) (r:List UInt8):Option (UInt8 × Nat × Bool) :=
 bif [91,46].isPrefixOf r then sW 46 true r
 else bif [91,61].isPrefixOf r then sW 61 false r
 else bif [92,110].isPrefixOf r then some (10,2,true)
 else bif [91,58].isPrefixOf r then none
 else bif [93].isPrefixOf r && !first then none
 else bif [45].isPrefixOf r && !first && !ends && !([45,93].isPrefixOf r) then none
 else match r with | []=>none | c :: _=>some (c,1,true)
theorem zZu {x:UInt8} {b:Bool} {c:UInt8} {k:Nat} {m:Bool}:∀ {r:List UInt8},sW x b r=some (c,k,m)->1 <= k∧k <= r.length
 | [],h=>absurd h (by simp [sW])
 | [_],h=>absurd h (by simp [sW])
 | [_,_],h=>absurd h (by simp [sW])
 | _ :: _ :: d :: t,h=>by
  unfold sW at h
  cases hp:[x,93].isPrefixOf t <;> simp only [hp,cond_true,cond_false] at h
  ·exact absurd h (by simp)
  ·have:=iT hp
   simp only [List.length_cons,List.length_nil,aA,aB] at this h ⊢
   omega
theorem Ev {first ends:Bool} {r:List UInt8} {c:UInt8} {k:Nat} {m:Bool} (h:qO first ends r=some (c,k,m)):1 <= k∧k <= r.length:=by
 have mk:∀ {x:UInt8} {b:Bool},sW x b r=some (c,k,m)->1 <= k∧k <= r.length:=fun h=>zZu h
 unfold qO at h
 cases h1:[91,46].isPrefixOf r <;> simp only [h1,cond_true,cond_false] at h
 ·cases h2:[91,61].isPrefixOf r <;> simp only [h2,cond_true,cond_false] at h
  ·cases h3:[92,110].isPrefixOf r <;> simp only [h3,cond_true,cond_false] at h
   ·cases h4:[91,58].isPrefixOf r <;> simp only [h4,cond_true,cond_false] at h
    ·cases h5:[93].isPrefixOf r && !first <;> simp only [h5,cond_true,cond_false] at h
     ·cases h6:[45].isPrefixOf r && !first && !ends && !([45,93].isPrefixOf r) <;> simp only [h6,cond_true,cond_false] at h
      ·split at h
       ·exact absurd h (by simp)
       ·simp only [aA,aB,List.length_cons] at h ⊢
        omega
      ·exact absurd h (by simp)
     ·exact absurd h (by simp)
    ·exact absurd h (by simp)
   ·have:=iT h3
    simp only [List.length_cons,List.length_nil,aA,aB] at this h
    omega
  ·exact mk h
 ·exact mk h
def xY (s:List UInt8) (i:Nat) (o:Option (UInt8 × Nat × Bool)) (e:Option (Sum (Int × Bool × List UInt8 × Int × Unit) (Int × Int × List UInt8 × Int × Unit))):Prop:=match o with
 | some (c,k,m)=>e=some (.inl ((c.toNat:Int),m,s,((i+k:Nat):Int),()))
 | none=>∃ a,e=some (.inr (42,0,s,a,()))
theorem tY {n:Nat} {x:List UInt8 × Int × Unit}:bN n x=some (.inr (42,0,x)):=rfl
theorem Zq {n : Nat} {s : List UInt8} {i : Nat} {mk : UInt8} {t : List UInt8} (hi : i <= s.length) (hs : s.length < 1000000) (hr : s.drop i = 91 :: mk :: t) :
    xY s i (sW mk ([mk] == [46]) (s.drop i))
      (br ((s.length : Int) == ((i + 2 : Nat) : Int)) (ob2 (bN n (s, ((i + 2 : Nat) : Int), ())) (fun y17 => none) (fun y17 => some (.inr (y17.1, y17.2.1, y17.2.2.1, y17.2.2.2.1, ()))))
        (chk ((decide (0 <= IntKind.wrap .i64 (((i + 2 : Nat) : Int) + 1)) && decide (IntKind.wrap .i64 (((i + 2 : Nat) : Int) + 1) <= (s.length : Int)))) (
                chk (decide (([mk] : List UInt8).length + ([93] : List UInt8).length <= aP)) (
                  ob (strings_HasPrefix n (s.drop (IntKind.wrap .i64 (((i + 2 : Nat) : Int) + 1)).toNat, [mk] ++ [93])) fun y19 =>
                  br (!y19) (
                    ob2 (bN n (s, ((i + 2 : Nat) : Int), ())) (fun y20 =>
                      none) (fun y20 =>
                      some (.inr (y20.1, y20.2.1, y20.2.2.1, y20.2.2.2.1, ())))) (
                    jn (qX n) ([mk], s, ((i + 2 : Nat) : Int), ())))))) := by
  obtain ⟨h1, h1'⟩ := vR hr
  obtain ⟨h2, h2'⟩ := vR h1
  have hlen : s.length = i + 2 + t.length := by
    have := congrArg List.length hr
    simp only [List.length_drop, List.length_cons] at this; omega
  rw [hr]
  cases t with
  | nil =>
    simp only [List.length_nil] at hlen
    rw [aK (by simp; omega), tY]
    simp only [yH, xY, sW]
    exact ⟨_, rfl⟩
  | cons c t =>
    simp only [List.length_cons] at hlen
    obtain ⟨h3, h3'⟩ := vR h2
    rw [aF (by simp; omega)]
    have hw : IntKind.wrap .i64 (((i + 2 : Nat) : Int) + 1) = ((i + 1 + 1 + 1 : Nat) : Int) := by rw [bD (by omega) (by omega)]; omega
    rw [hw, aD (by simp; omega), aD (by simp [aP]), Int.toNat_natCast, h3, Wd]
    simp only [aQ, List.cons_append, List.nil_append]
    cases hp : [mk, 93].isPrefixOf t
    · simp only [Bool.not_false, bV, tY, yH, cond_false, xY, sW, hp]
      exact ⟨_, rfl⟩
    · simp only [Bool.not_true, bC, cond_true, xY, mI, qX, sW, hp]
      have := iT hp
      simp only [List.length_cons, List.length_nil] at this
      rw [aD (qW (by omega)), bD (by omega) (by omega), show ((i + 2 : Nat) : Int) = ((i + 2 : Nat) : Int) from rfl, sV (c := c) (by rw [hr]; rfl)]
      rfl
theorem zFn {n : Nat} {s : List UInt8} {i : Nat} {first ends : Bool} (hn : 3 <= n) (hi : i <= s.length) (hs : s.length < 1000000) : xY s i (qO first ends (s.drop i)) (lH n (first, ends, s, (i : Int), ())) := by
  obtain ⟨m, rfl⟩ : ∃ m, n = m + 3 := ⟨n - 3, by omega⟩
  have hlen : (s.drop i).length = s.length - i := List.length_drop
  have hin : ∀ {t : List UInt8}, t.isPrefixOf (s.drop i) = true -> i + t.length <= s.length := fun h => by have := iT h; omega
  unfold lH qO
  simp only
  rw [zAw, lQ]
  simp only
  rw [aK (by rfl), aD (by rfl), aD (by rfl), aD (by rfl)]
  rw [show [91] ++ List.getD [[46], [61]] (0 + Int.toNat 0) (Ty.dflt .str) = ([91, 46] : List UInt8) from rfl, show List.getD [[46], [61]] (0 + Int.toNat 0) (Ty.dflt .str) = ([46] : List UInt8) from rfl]
  cases h1 : [91, 46].isPrefixOf (s.drop i)
  case true =>
    obtain ⟨t, ht⟩ := Md h1
    rw [nQ hi hs h1]
    simp only [aQ, Bool.not_true, bC, cond_true]
    exact Zq hi hs ht
  rw [nR hi h1]
  simp only [aQ, Bool.not_false, bV, cond_false]
  rw [show IntKind.wrap .i64 (0 + 1) = 1 from rfl, zAw, lQ]
  simp only
  rw [aK (by rfl), aD (by rfl), aD (by rfl), aD (by rfl)]
  rw [show [91] ++ List.getD [[46], [61]] (0 + Int.toNat 1) (Ty.dflt .str) = ([91, 61] : List UInt8) from rfl, show List.getD [[46], [61]] (0 + Int.toNat 1) (Ty.dflt .str) = ([61] : List UInt8) from rfl]
  cases h2 : [91, 61].isPrefixOf (s.drop i)
  case true =>
    obtain ⟨t, ht⟩ := Md h2
    rw [nQ hi hs h2]
    simp only [aQ, Bool.not_true, bC, cond_true]
    exact Zq hi hs ht
  rw [nR hi h2]
  simp only [aQ, Bool.not_false, bV, cond_false]
  rw [show IntKind.wrap .i64 (1 + 1) = 2 from rfl, zAw, lQ]
  simp only
  rw [aF (by rfl)]
  cases h3 : [92, 110].isPrefixOf (s.drop i)
  case true =>
    rw [nQ hi hs h3]
    simp only [aQ, bV, cond_true, xY]
    rfl
  rw [nR hi h3]
  have yLz : ∀ {c : UInt8} {t : List UInt8}, s.drop i = c :: t -> jF (m + 3) (s, (i : Int), ()) = some (.inl ((c.toNat : Int), true, s, ((i + 1 : Nat) : Int), ())) := by
    intro c t hr
    obtain ⟨_, h⟩ := vR hr
    unfold jF
    simp only
    have e : IntKind.wrap .i64 (IntKind.wrap .i64 ((i : Int) + 1) - 1) = ((i + 0 : Nat) : Int) := by
      rw [bD (x := (i : Int) + 1) (by omega) (by omega), bD (by omega) (by omega)]; omega
    rw [e, aD (qW (by omega)), sV (c := c) (by rw [hr]; rfl), bD (by omega) (by omega)]; rfl
  have zLw : ∀ bare : Bool, xY s i (bif [91, 58].isPrefixOf (s.drop i) then none
      else bif [93].isPrefixOf (s.drop i) && !first then none
      else bif bare then none
      else match s.drop i with | [] => none | c :: _ => some (c, 1, true)) (iA (m + 3) (first, bare, s, (i : Int), ())) := by
    intro bare
    unfold iA
    simp only
    cases hr : s.drop i with
    | nil =>
      rw [hr] at hlen
      simp only [List.length_nil] at hlen
      rw [aK (by simp; omega), tY]
      simp only [yH]
      cases first <;> cases bare <;> exact ⟨_, rfl⟩
    | cons c t =>
      obtain ⟨_, hlt⟩ := vR hr
      rw [aF (by simp; omega), kQ hi]
      simp only [aQ]
      rw [<- hr]
      cases h4 : [91, 58].isPrefixOf (s.drop i)
      case true =>
        simp only [bV, tY, yH, cond_true]
        exact ⟨_, rfl⟩
      simp only [bC, cond_false]
      rw [kQ hi]
      simp only [aQ]
      have hb : xY s i (bif bare then none else some (c, 1, true)) (br bare (
            ob2 (bN (m + 3) (s, (i : Int), ())) (fun y40 => none) (fun y40 => some (.inr (y40.1, y40.2.1, y40.2.2.1, y40.2.2.2.1, ())))) (
            jn (jF (m + 3)) (s, (i : Int), ()))) := by
        cases bare
        · simp only [bC, cond_false, mI]
          rw [yLz hr]; rfl
        · simp only [bV, cond_true, tY, yH]
          exact ⟨_, rfl⟩
      cases h5 : [93].isPrefixOf (s.drop i)
      · simp only [bC, Bool.false_and, cond_false]
        exact hb
      · cases first
        · simp only [bV, Bool.not_false, Bool.true_and, cond_true, tY, yH]
          exact ⟨_, rfl⟩
        · simp only [bV, bC, Bool.not_true, Bool.and_false, cond_false]
          exact hb
  simp only [aQ, bC, cond_false]
  rw [kQ hi]
  simp only [aQ]
  cases h6 : [45].isPrefixOf (s.drop i)
  · simp only [bC, Bool.false_and]
    exact zLw false
  simp only [bV, Bool.true_and]
  cases first
  · simp only [Bool.not_false, bV, Bool.true_and]
    cases ends
    · simp only [Bool.not_false, bV, Bool.true_and]
      rw [kQ hi]
      simp only [aQ]
      exact zLw _
    · simp only [Bool.not_true, bC, Bool.false_and]
      exact zLw false
  · simp only [Bool.not_true, bC, Bool.false_and]
    exact zLw false
def Lj:Option (UInt8 × Nat × Bool)->Int × Int × Bool
 | some (c,k,m)=>((c.toNat:Int),((k:Nat):Int),m)
 | none=>(0,0,false)
theorem cI (c:UInt8):((c.toNat:Int) == 91)=(91 == c)∧((c.toNat:Int) == 46)=(46 == c)∧((c.toNat:Int) == 61)=(61 == c)∧((c.toNat:Int) == 58)=(58 == c)∧((c.toNat:Int) == 92)=(92 == c)∧((c.toNat:Int) == 110)=(110 == c)∧((c.toNat:Int) == 93)=(93 == c)∧((c.toNat:Int) == 45)=(45 == c)∧((c.toNat:Int) == 94)=(94 == c) :=
 ⟨eqI 91,eqI 46,eqI 61,eqI 58,eqI 92,eqI 110,eqI 93,eqI 45,eqI 94⟩
theorem zHu (a b:UInt8):(a == b)=(b == a):=by rw [Bool.eq_iff_iff,beq_iff_eq,beq_iff_eq]; exact eq_comm
theorem Wh {n:Nat} {s:List UInt8} {i:Nat} {first ends:Bool} (hi:i <= s.length) (hs:s.length < 1000000):oG n (s,(i:Int),first,ends)=some (Lj (qO first ends (s.drop i))):=by
 have hlen:(s.drop i).length=s.length - i:=List.length_drop
 have hg:∀ (j:Nat) (c:UInt8),(s.drop i)[j]?=some c->aU 0 s ((i:Int)+(j:Nat))=c:=fun _ _ h=>sV h
 unfold oG
 simp only
 cases hr:s.drop i with
 | nil =>
  rw [hr] at hlen
  simp only [List.length_nil] at hlen
  rw [aK (by simp; omega)]
  cases first <;> rfl
 | cons c t =>
  rw [hr] at hlen hg
  simp only [List.length_cons] at hlen
  rw [aF (by simp; omega),aD (qW (by omega)),bD (by omega) (by omega)]
  have e0:aU 0 s (i:Int)=c:=by have:=hg 0 c rfl; simpa using this
  rw [e0]
  obtain ⟨q1,q2,q3,q4,q5,q6,q7,q8,q9⟩:=cI c
  have J4:∀ (x:Int),qD n (first,ends,(c.toNat:Int),x,())=some (Lj (bif [45].isPrefixOf (c :: t) && !first && !ends && (x != 93) then none else some (c,1,true))):=by
   intro x
   unfold qD
   simp only [q8,List.isPrefixOf,Bool.and_true]
   cases (45 == c) <;> cases first <;> cases ends <;> cases (x != 93) <;> rfl
  have J3:∀ (x:Int),mG n (first,ends,(c.toNat:Int),x,())=some (Lj (bif [93].isPrefixOf (c :: t) && !first then none else bif [45].isPrefixOf (c :: t) && !first && !ends && (x != 93) then none else some (c,1,true))):=by
   intro x
   unfold mG
   simp only [q7,mI,J4]
   have:[93].isPrefixOf (c :: t)=(93 == c):=by simp [List.isPrefixOf]
   rw [this]
   cases (93 == c) <;> cases first <;> rfl
  cases t with
  | nil =>
   simp only [List.length_nil] at hlen
   rw [aF (by simp; omega),mI,qE]
   simp only [q1]
   have J2:mH n (s,(i:Int),first,ends,(c.toNat:Int),0,())=some (Lj (qO first ends [c])):=by
    unfold mH qO
    simp only [mI,J3]
    cases (((c.toNat:Nat):Int) == 92) <;> simp [List.isPrefixOf]
   cases (91 == c)
   ·simp only [bC,mI,eO]; exact J2
   ·simp only [bV,mI,eO]
    rw [aF (by rfl),aF (by rfl),aF (by rfl)]
    exact J2
  | cons d t =>
   simp only [List.length_cons] at hlen
   have e1:aU 0 s ((i:Int)+1)=d:=hg 1 d rfl
   rw [aK (by simp; omega),aD (eU (by omega) (by omega)),e1,mI,qE]
   obtain ⟨d1,d2,d3,d4,d5,d6,d7,d8,d9⟩:=cI d
   have J2:[91,46].isPrefixOf (c :: d :: t)=false->[91,61].isPrefixOf (c :: d :: t)=false->[91,58].isPrefixOf (c :: d :: t)=false->mH n (s,(i:Int),first,ends,(c.toNat:Int),(d.toNat:Int),())=some (Lj (qO first ends (c :: d :: t))):=by
    intro a1 a2 a3
    unfold mH qO
    simp only [mI,J3,a1,a2,a3,q5,d6,cond_false]
    rw [bD (by omega) (by omega),show decide ((i:Int)+1 < (s.length:Int))=true by simp; omega]
    have x1:[92,110].isPrefixOf (c :: d :: t)=(92 == c && 110 == d):=by simp [List.isPrefixOf]
    have x2:([45].isPrefixOf (c :: d :: t) && !first && !ends && !([45,93].isPrefixOf (c :: d :: t)))=([45].isPrefixOf (c :: d :: t) && !first && !ends && ((d.toNat:Int) != 93)):=by
     simp only [bne,d7,List.isPrefixOf,Bool.and_true]
     cases (45 == c) <;> simp
    rw [x1,x2]
    cases (92 == c) <;> cases (110 == d) <;> rfl
   have M:∀ mk:UInt8,c=91->d=mk->mk ≠ 58->eO n (s,(i:Int),first,ends,(c.toNat:Int),(d.toNat:Int),true,())=some (Lj (sW mk (mk == 46) (c :: d :: t))):=by
    intro mk hc hd hm
    subst hc hd
    unfold eO
    have hne:(d != 58)=true:=by simp [hm]
    have hne2:((d.toNat:Int) != 58)=true:=by rw [bne,d4]; rw [show (58 == d)=(d == 58) from zHu _ _]; exact hne
    simp only [bV,hne2]
    rw [bD (x:=(i:Int)+4) (by omega) (by omega),bD (x:=(i:Int)+3) (by omega) (by omega),bD (x:=(i:Int)+2) (by omega) (by omega)]
    match t,hlen,hg with
    | [],hlen,hg=>simp only [List.length_nil] at hlen; rw [aF (by simp; omega)]; rfl
    | [e],hlen,hg=>simp only [List.length_nil,List.length_cons] at hlen; rw [aF (by simp; omega)]; rfl
    | [e,f],hlen,hg =>
     simp only [List.length_nil,List.length_cons] at hlen; rw [aF (by simp; omega)]
     simp [sW,List.isPrefixOf,Lj]
    | e :: f :: g :: u,hlen,hg =>
     simp only [List.length_cons] at hlen
     have e2:aU 0 s ((i:Int)+2)=e:=hg 2 e rfl
     have e3:aU 0 s ((i:Int)+3)=f:=hg 3 f rfl
     have e4:aU 0 s ((i:Int)+4)=g:=hg 4 g rfl
     rw [aK (by simp; omega),aD (eU (by omega) (by omega)),aD (eU (by omega) (by omega)),aD (eU (by omega) (by omega)),e2,e3,e4]
     have g1:((f.toNat:Int) == (d.toNat:Int))=(d == f):=eqI d
     obtain ⟨_,_,_,_,_,_,g7,_,_⟩:=cI g
     simp only [g1,g7,sW,List.isPrefixOf,Bool.and_true]
     rw [d2,show (46 == d)=(d == 46) from zHu _ _]
     cases (d == f) <;> cases (93 == g) <;> rfl
   simp only [q1,d2,d3,d4,mI]
   rw [bD (by omega) (by omega),show decide ((i:Int)+1 < (s.length:Int))=true by simp; omega]
   cases hc:(91 == c)
   ·simp only [bC,eO,mI]
    exact J2 (by simp [List.isPrefixOf,hc]) (by simp [List.isPrefixOf,hc]) (by simp [List.isPrefixOf,hc])
   ·simp only [bV]
    cases h46:(46 == d)
    case true =>
     have hc':c=91:=(eq_of_beq hc).symm
     have hd':d=46:=(eq_of_beq h46).symm
     simp only [bV]
     rw [M 46 hc' hd' (by decide)]
     subst hc' hd'
     rfl
    cases h61:(61 == d)
    case true =>
     have hc':c=91:=(eq_of_beq hc).symm
     have hd':d=61:=(eq_of_beq h61).symm
     simp only [bV,bC]
     rw [M 61 hc' hd' (by decide)]
     subst hc' hd'
     rfl
    cases h58:(58 == d)
    case true =>
     have hc':c=91:=(eq_of_beq hc).symm
     have hd':d=58:=(eq_of_beq h58).symm
     simp only [bV,bC]
     subst hc' hd'
     rfl
    simp only [bC,eO,mI]
    exact J2 (by simp [List.isPrefixOf,h46]) (by simp [List.isPrefixOf,h61]) (by simp [List.isPrefixOf,h58])
def uJ:List UInt8->Option Nat
 | []=>none
 | c :: r=>bif [58,93].isPrefixOf (c :: r) then some 0 else (uJ r).map (· + 1)
theorem Ll:∀ {r:List UInt8} {k:Nat},uJ r=some k->[58,93].isPrefixOf (r.drop k)=true∧k+2 <= r.length
 | [],k,h=>absurd h (by simp [uJ])
 | c :: r,k,h=>by
  unfold uJ at h
  cases hp:[58,93].isPrefixOf (c :: r) <;> simp only [hp,cond_true,cond_false] at h
  ·cases hk:uJ r with
   | none=>rw [hk] at h; exact absurd h (by simp)
   | some j =>
    rw [hk] at h
    simp only [Option.map_some,aA] at h
    subst h
    obtain ⟨h1,h2⟩:=Ll hk
    exact ⟨h1,by simp only [List.length_cons]; omega⟩
  ·simp only [aA] at h
   subst h
   exact ⟨hp,by have:=iT hp; simpa using this⟩
theorem zJs:∀ r:List UInt8,Go.Lib.index r [58,93]=match uJ r with | some k=>((k:Nat):Int) | none=>-1
 | []=>by rfl
 | c :: r=>by
  have ih:=zJs r
  rw [Go.Lib.index,uJ]
  cases hp:[58,93].isPrefixOf (c :: r)
  ·simp only [Bool.false_eq_true,if_false,cond_false]
   rw [ih]
   cases uJ r with
   | none=>rfl
   | some k =>
    simp only [Option.map_some]
    rw [if_neg (by simp)]; rfl
  ·rfl
theorem yGn (r:List UInt8):Go.Lib.cut r [58,93]=match uJ r with | some k=>(r.take k,r.drop (k+2),true) | none=>(r,[],false):=by
 unfold Go.Lib.cut
 rw [zJs]
 cases uJ r with
 | none=>rfl
 | some k=>simp
def yI (first:Bool) (r:List UInt8):Option ((Nat->Bool) × Nat) :=
 bif [91,58].isPrefixOf r then
  match uJ (r.drop 2) with
  | none=>none
  | some k=>match Jz ((r.drop 2).take k) with
   | some p=>some (p,k+4)
   | none=>none
 else match qO first false r with
  | none=>none
  | some (a,k,may) =>
   bif [45].isPrefixOf (r.drop k) && !([45,93].isPrefixOf (r.drop k)) && decide (1 < (r.drop k).length) then
    match qO false true (r.drop (k+1)) with
    | none=>none
    | some (b,m,is)=>bif may && is && !(decide (b.toNat < a.toNat)) then some (bU a.toNat b.toNat,k+1+m) else none
   else some (bU a.toNat a.toNat,k)
theorem Wi {first:Bool} {r:List UInt8} {p:Nat->Bool} {k:Nat} (h:yI first r=some (p,k)):1 <= k∧k <= r.length:=by
 unfold yI at h
 cases h0:[91,58].isPrefixOf r <;> simp only [h0,cond_true,cond_false] at h
 ·cases h1:qO first false r with
  | none=>rw [h1] at h; exact absurd h (by simp)
  | some x =>
   obtain ⟨a,j,may⟩:=x
   have hl:=Ev h1
   rw [h1] at h
   simp only at h
   cases h2:[45].isPrefixOf (r.drop j) && !([45,93].isPrefixOf (r.drop j)) && decide (1 < (r.drop j).length) <;> simp only [h2,cond_true,cond_false] at h
   ·simp only [aA,aB] at h; omega
   ·cases h3:qO false true (r.drop (j+1)) with
    | none=>rw [h3] at h; exact absurd h (by simp)
    | some y =>
     obtain ⟨b,m,is⟩:=y
     have hl3:=Ev h3
     rw [h3] at h
     simp only at h
     rw [List.length_drop] at hl3
     cases h4:may && is && !(decide (b.toNat < a.toNat)) <;> simp only [h4,cond_true,cond_false] at h
     ·exact absurd h (by simp)
     ·simp only [aA,aB] at h; omega
 ·cases h1:uJ (r.drop 2) with
  | none=>rw [h1] at h; exact absurd h (by simp)
  | some j =>
   rw [h1] at h
   simp only at h
   have:=(Ll h1).2
   rw [List.length_drop] at this
   cases h2:Jz ((r.drop 2).take j) with
   | none=>rw [h2] at h; exact absurd h (by simp)
   | some q =>
    rw [h2] at h
    simp only [aA,aB] at h; omega
def zFo (s:List UInt8) (i:Nat) (o:Option ((Nat->Bool) × Nat)) (e:Option (Sum (List Int × List UInt8 × Int × Unit) (Int × Int × List UInt8 × Int × Unit))):Prop:=match o with
 | some (p,k)=>e=some (.inl (wd p,s,((i+k:Nat):Int),()))
 | none=>∃ a,e=some (.inr (42,0,s,a,()))
theorem yGo {n:Nat} {s:List UInt8} {i:Nat} {first:Bool} (hn:300 <= n) (hi:i <= s.length) (hs:s.length < 1000000):zFo s i (yI first (s.drop i)) (mW n (first,s,(i:Int),())):=by
 unfold mW yI
 simp only
 cases h0:[91,58].isPrefixOf (s.drop i)
 case true =>
  have hl:=iT h0
  simp only [List.length_drop,List.length_cons,List.length_nil] at hl
  rw [nQ hi hs h0]
  simp only [aQ,bV,cond_true]
  rw [aD (by simp; omega),Int.toNat_natCast,strings_Cut,aD (by simp; omega),show ([91,58]:List UInt8).length=2 from rfl]
  simp only [aQ]
  rw [yGn,List.drop_drop]
  have hC:=zFm (n:=n) hn
  cases h1:uJ (s.drop (i+2)) with
  | none =>
   simp only
   have h2:=hC (s.drop (i+2))
   have yEs:∀ (w:Bool),∀ (x:List Int),∃ a,(ob (ρ:=Sum (List Int × List UInt8 × Int × Unit) (Int × Int × List UInt8 × Int × Unit)) (some (x,w)) fun y8 =>
    br (!y8.2) (
    ob2 (bN n (s,IntKind.wrap .i64 (((i+2:Nat):Int)+((s.drop (i+2)).length:Int)),())) (fun y9 =>
     none) (fun y9 =>
     some (.inr (y9.1,y9.2.1,y9.2.2.1,y9.2.2.2.1,())))) (
    ob (eD n ([58,93],s,IntKind.wrap .i64 (((i+2:Nat):Int)+((s.drop (i+2)).length:Int)),())) fun y10 =>
    br (!y10.1) (
     ob2 (bN n (y10.2.1,y10.2.2.1,())) (fun y11 =>
      none) (fun y11 =>
      some (.inr (y11.1,y11.2.1,y11.2.2.1,y11.2.2.2.1,())))) (
     some (.inl (y8.1,y10.2.1,y10.2.2.1,())))))=some (.inr (42,0,s,a,())):=by
    intro w x
    simp only [aQ]
    cases w
    ·simp only [Bool.not_false,bV,tY,yH]
     exact ⟨_,rfl⟩
    ·simp only [Bool.not_true,bC]
     have e:IntKind.wrap .i64 (((i+2:Nat):Int)+((s.drop (i+2)).length:Int))=((s.length:Nat):Int):=by
      rw [List.length_drop,bD (by omega) (by omega)]; omega
     rw [e,nR (aX _) (by simp)]
     simp only [aQ,Bool.not_false,bV,tY,yH]
     exact ⟨_,rfl⟩
   cases hc:Jz (s.drop (i+2)) with
   | none=>rw [hc] at h2; rw [h2.1]; exact yEs _ _
   | some p=>rw [hc] at h2; rw [h2.1]; exact yEs _ _
  | some k =>
   simp only
   obtain ⟨k1,k2⟩:=Ll h1
   rw [List.length_drop] at k2
   rw [List.drop_drop] at k1
   have h2:=hC ((s.drop (i+2)).take k)
   have e:IntKind.wrap .i64 (((i+2:Nat):Int)+(((s.drop (i+2)).take k).length:Int))=((i+2+k:Nat):Int):=by
    rw [List.length_take,List.length_drop,bD (by omega) (by omega)]; omega
   rw [e]
   cases hc:Jz ((s.drop (i+2)).take k) with
   | none =>
    rw [hc] at h2; rw [h2.1]
    simp only [aQ,Bool.not_false,bV,tY,yH]
    exact ⟨_,rfl⟩
   | some p =>
    rw [hc] at h2; rw [h2.1]
    simp only [aQ,Bool.not_true,bC]
    rw [nQ (by omega) hs k1]
    simp only [aQ,Bool.not_true,bC,zFo]
    rw [show i+2+k+([58,93]:List UInt8).length=i+(k+4) by simp; omega]
 rw [nR hi h0]
 simp only [aQ,bC,cond_false]
 have hE:=zFn (n:=n) (first:=first) (ends:=false) (by omega) hi hs
 cases h1:qO first false (s.drop i) with
 | none =>
  rw [h1] at hE
  obtain ⟨a,hE⟩:=hE
  rw [hE]
  simp only [yH]
  exact ⟨_,rfl⟩
 | some x =>
  obtain ⟨a,k,may⟩:=x
  rw [h1] at hE
  simp only [xY] at hE
  rw [hE]
  have hk:=Ev h1
  rw [List.length_drop] at hk
  simp only [zXa]
  have hik:i+k <= s.length:=by omega
  have hR:dO n ((a.toNat:Int),(a.toNat:Int))=some (wd (bU a.toNat a.toNat)):=Bo hn a.toNat_lt a.toNat_lt
  rw [kQ hik,hR,List.drop_drop]
  simp only [aQ]
  cases h2:[45].isPrefixOf (s.drop (i+k))
  ·simp only [Bool.not_false,bV,Bool.false_and,cond_false]; rfl
  simp only [Bool.not_true,bC,Bool.true_and]
  rw [kQ hik]
  simp only [aQ]
  cases h3:[45,93].isPrefixOf (s.drop (i+k))
  case true=>simp only [bV,Bool.not_true,Bool.false_and,cond_false]; rfl
  simp only [bC,Bool.not_false,Bool.true_and]
  have hp:=iT h2
  rw [List.length_drop] at hp ⊢
  simp only [List.length_cons,List.length_nil] at hp
  rw [bD (by omega) (by omega)]
  by_cases h4:1 < s.length - (i+k)
  ·rw [aF (by simp; omega),decide_eq_true h4]
   simp only [cond_true]
   have hE2:=zFn (n:=n) (first:=false) (ends:=true) (s:=s) (i:=i+k+1) (by omega) (by omega) hs
   rw [show ((i+k:Nat):Int)+1=((i+k+1:Nat):Int) from rfl]
   rw [List.drop_drop,show i+(k+1)=i+k+1 by omega]
   cases h5:qO false true (s.drop (i+k+1)) with
   | none =>
    rw [h5] at hE2
    obtain ⟨a,hE2⟩:=hE2
    rw [hE2]
    simp only [yH]
    exact ⟨_,rfl⟩
   | some y =>
    obtain ⟨b,m,is⟩:=y
    rw [h5] at hE2
    simp only [xY] at hE2
    rw [hE2]
    simp only [zXa,tY,yH]
    cases may
    ·simp only [Bool.not_false,bV,Bool.false_and,cond_false]; exact ⟨_,rfl⟩
    cases is
    ·simp only [Bool.not_false,bV,Bool.not_true,bC,Bool.and_false,Bool.false_and,cond_false]; exact ⟨_,rfl⟩
    have hR2:dO n ((a.toNat:Int),(b.toNat:Int))=some (wd (bU a.toNat b.toNat)):=Bo hn a.toNat_lt b.toNat_lt
    rw [hR2,show decide ((b.toNat:Int) < (a.toNat:Int))=decide (b.toNat < a.toNat) by simp]
    cases decide (b.toNat < a.toNat)
    ·simp only [Bool.not_false,Bool.not_true,bC,Bool.and_true,cond_true,aQ,zFo]
     rw [show i+(k+1+m)=i+k+1+m by omega]
    ·simp only [Bool.not_true,bC,bV,Bool.and_false,cond_false]; exact ⟨_,rfl⟩
  ·rw [aK (by simp; omega),decide_eq_false h4]
   rfl
theorem yGp {n:Nat} {g0:List UInt8 × Int × Bool × Bool × List Bool × List Bool × List Bool × Unit->Option (List Bool × Int × Int)} {s:List UInt8} {i:Nat} {no:Bool} {b1 b2 b3:List Bool} (hs:s.length < 1000000) :
  ∀ (r:List UInt8) (k m:Nat),s.drop k=r->k <= s.length->i+2 <= k->r.length < m->fix (oQ n g0) m (s,(i:Int),no,(k:Int),b1,b2,b3,())=match uJ r with
   | some j=>jD n g0 (s,(i:Int),no,((k+j:Nat):Int),b1,b2,b3,())
   | none=>some (b2,0,42):=by
 intro r
 induction r with
 | nil =>
  intro k m hr hk hik hm
  have hl:s.length=k:=by have:=congrArg List.length hr; simp only [List.length_drop,List.length_nil] at this; omega
  rw [dL (by omega),oQ]
  simp only
  rw [bD (by omega) (by omega),aF (by simp; omega),mI,jD]
  simp only
  rw [bD (by omega) (by omega),aK (by simp; omega)]
  rfl
 | cons c r ih =>
  intro k m hr hk hik hm
  obtain ⟨hr2,hk2⟩:=vR hr
  have hl:s.length=k+(r.length+1):=by have:=congrArg List.length hr; simp only [List.length_drop,List.length_cons] at this; omega
  simp only [List.length_cons] at hm
  rw [dL (by omega),oQ]
  simp only
  rw [bD (by omega) (by omega)]
  rw [uJ]
  cases r with
  | nil =>
   simp only [List.length_nil] at hl
   rw [aF (by simp; omega),mI,jD]
   simp only
   rw [bD (by omega) (by omega),aK (by simp; omega)]
   simp [List.isPrefixOf,uJ]
  | cons d r =>
   simp only [List.length_cons] at hl
   rw [aK (by simp; omega),bD (by omega) (by omega),aD (by simp; omega)]
   have e:(s.take ((k:Int)+2).toNat).drop (k:Int).toNat=[c,d]:=by
    rw [Int.toNat_natCast,show ((k:Int)+2).toNat=k+2 by omega,List.drop_take,hr,show k+2 - k=2 by omega]; rfl
   rw [e]
   have e2:([c,d] == ([58,93]:List UInt8))=[58,93].isPrefixOf (c :: d :: r):=by
    rw [Bool.eq_iff_iff,beq_iff_eq,List.isPrefixOf_iff_prefix,List.prefix_iff_eq_take]
    exact eq_comm
   rw [e2]
   cases hp:[58,93].isPrefixOf (c :: d :: r)
   ·simp only [Bool.not_false,bV,cond_false]
    rw [show (k:Int)+1=((k+1:Nat):Int) from rfl,ih (k+1) (m - 1) hr2 (by omega) (by omega) (by omega)]
    cases uJ (d :: r) with
    | none=>rfl
    | some j=>simp only [Option.map_some]; rw [show k+1+j=k+(j+1) by omega]
   ·simp only [Bool.not_true,bC,cond_true,mI]
    rfl
theorem yDi {n:Nat} {g0:List UInt8 × Int × Bool × Bool × List Bool × List Bool × List Bool × Unit->Option (List Bool × Int × Int)} {s:List UInt8} {i:Nat} {no first:Bool} {b1 b2:List Bool} {q:Nat->Bool} (hn:300 <= n) (hsn:s.length < n) (hi:i <= s.length) (hs:s.length < 1000000) :
  iD n g0 (s,(i:Int),no,first,b1,b2,bx q,())=match yI first (s.drop i) with
   | some (p,k)=>g0 (s,((i+k:Nat):Int),no,false,b1,b2,bx (fun j=>q j || p j),())
   | none=>some (b2,0,42):=by
 have hlen:(s.drop i).length=s.length - i:=List.length_drop
 have J5:iD n g0 (s,(i:Int),no,first,b1,b2,bx q,())=oU n g0 (s,(i:Int),no,first,[91,58].isPrefixOf (s.drop i),b1,b2,bx q,()):=by
  unfold iD
  simp only [mI]
  rw [bD (by omega) (by omega)]
  by_cases h:i+1 < s.length
  ·rw [aK (by simp; omega),bD (by omega) (by omega),aD (by simp; omega)]
   congr 6
   rw [Int.toNat_natCast,show ((i:Int)+2).toNat=i+2 by omega,List.drop_take,show i+2 - i=2 by omega]
   rw [Bool.eq_iff_iff,beq_iff_eq,List.isPrefixOf_iff_prefix,List.prefix_iff_eq_take]
   exact eq_comm
  ·rw [aF (by simp; omega)]
   congr 6
   symm
   rw [Bool.eq_false_iff]
   intro hp
   have:=iT hp
   simp only [List.length_cons,List.length_nil] at this
   omega
 rw [J5]
 unfold oU yI
 simp only
 cases h0:[91,58].isPrefixOf (s.drop i)
 case true =>
  have hl:=iT h0
  simp only [List.length_cons,List.length_nil] at hl
  simp only [bV,cond_true]
  rw [bD (by omega) (by omega),show (i:Int)+2=((i+2:Nat):Int) from rfl,yGp hs (s.drop (i+2)) (i+2) n rfl (by omega) (by omega) (by rw [List.length_drop]; omega),List.drop_drop]
  cases h1:uJ (s.drop (i+2)) with
  | none=>rfl
  | some k =>
   simp only
   obtain ⟨k1,k2⟩:=Ll h1
   rw [List.length_drop] at k2
   unfold jD
   simp only
   rw [bD (by omega) (by omega),aF (by simp; omega),bD (by omega) (by omega),aD (by simp; omega)]
   have e:(s.take ((i+2+k:Nat):Int).toNat).drop ((i:Int)+2).toNat=(s.drop (i+2)).take k:=by
    rw [Int.toNat_natCast,show ((i:Int)+2).toNat=i+2 by omega,List.drop_take,show i+2+k - (i+2)=k by omega]
   rw [e]
   have h2:=zFm (n:=n) hn ((s.drop (i+2)).take k)
   cases hc:Jz ((s.drop (i+2)).take k) with
   | none =>
    rw [hc] at h2
    obtain ⟨_,p,h2⟩:=h2
    rw [h2]; rfl
   | some p =>
    rw [hc] at h2; rw [h2.2]
    simp only [aQ,Bool.not_true,bC]
    rw [Dz hn,bD (by omega) (by omega)]
    simp only [aQ]
    rw [show i+(k+4)=i+2+k+2 by omega]; rfl
 simp only [bC,cond_false,mI]
 have J7:∀ (A K:Int) (M:Bool),oG n (s,(i:Int),first,false)=some (A,K,M)->uD n g0 (s,(i:Int),no,first,b1,b2,bx q,()) =
  br (K == 0) (some (b2,0,42)) (br (decide (IntKind.wrap .i64 (IntKind.wrap .i64 ((i:Int)+K)+1) < (s.length:Int))) (
   chk (inB (IntKind.wrap .i64 ((i:Int)+K)) s.length) (
    br (((aU 0 s (IntKind.wrap .i64 ((i:Int)+K))).toNat:Int) == 45) (
     chk (inB (IntKind.wrap .i64 (IntKind.wrap .i64 ((i:Int)+K)+1)) s.length) (
      jn (fH n g0) (s,IntKind.wrap .i64 ((i:Int)+K),no,A,M,A,(((aU 0 s (IntKind.wrap .i64 (IntKind.wrap .i64 ((i:Int)+K)+1))).toNat:Int) != 93),b1,b2,bx q,()))) (
     jn (fH n g0) (s,IntKind.wrap .i64 ((i:Int)+K),no,A,M,A,false,b1,b2,bx q,())))) (
   jn (fH n g0) (s,IntKind.wrap .i64 ((i:Int)+K),no,A,M,A,false,b1,b2,bx q,()))):=by
  intro A K M h
  unfold uD
  simp only
  rw [h]; rfl
 cases h1:qO first false (s.drop i) with
 | none=>rw [J7 0 0 false (by rw [Wh hi hs,h1]; rfl)]; rfl
 | some x =>
  obtain ⟨a,k,may⟩:=x
  have hk:=Ev h1
  rw [List.length_drop] at hk
  have hik:i+k <= s.length:=by omega
  rw [J7 (a.toNat:Int) (k:Int) may (by rw [Wh hi hs,h1]; rfl)]
  rw [aF (by simp; omega),bD (x:=(i:Int)+(k:Int)) (by omega) (by omega),bD (by omega) (by omega)]
  have J8f:∀ t:Bool,t=false->fH n g0 (s,(i:Int)+(k:Int),no,(a.toNat:Int),may,(a.toNat:Int),t,b1,b2,bx q,())=g0 (s,((i+k:Nat):Int),no,false,b1,b2,bx (fun j=>q j || bU a.toNat a.toNat j),()):=by
   intro t ht
   subst ht
   unfold fH
   have hR:dH n ((a.toNat:Int),(a.toNat:Int))=some (bx (bU a.toNat a.toNat)):=wO hn a.toNat_lt a.toNat_lt
   simp only [bC,hR,aQ]
   rw [Dz hn]; rfl
  simp only
  rw [List.drop_drop,List.length_drop]
  by_cases h4:1 < s.length - (i+k)
  ·rw [aK (by simp; omega),aD (eU (by omega) (by omega)),decide_eq_true h4,Bool.and_true]
   cases hr:s.drop (i+k) with
   | nil=>have:=congrArg List.length hr; simp only [List.length_drop,List.length_nil] at this; omega
   | cons c t =>
    obtain ⟨hr2,_⟩:=vR hr
    have e0:aU 0 s ((i:Int)+(k:Int))=c:=sV (i:=i+k) (j:=0) (by rw [hr]; rfl)
    rw [e0,(cI c).2.2.2.2.2.2.2.1]
    cases t with
    | nil=>have:=congrArg List.length hr; simp only [List.length_drop,List.length_nil,List.length_cons] at this; omega
    | cons d t =>
     have e1:aU 0 s ((i:Int)+(k:Int)+1)=d:=sV (i:=i+k) (j:=1) (by rw [hr]; rfl)
     simp only [List.isPrefixOf,Bool.and_true]
     cases h45:(45 == c)
     ·simp only [bC,Bool.false_and,cond_false,mI]
      exact J8f _ rfl
     ·simp only [bV,Bool.true_and,mI]
      rw [aD (eU (by omega) (by omega)),e1,bne,(cI d).2.2.2.2.2.2.1]
      cases h93:(93 == d)
      case true =>
       simp only [Bool.not_true,cond_false]
       exact J8f _ rfl
      simp only [Bool.not_false,cond_true]
      unfold fH
      simp only [bV]
      rw [bD (x:=(i:Int)+(k:Int)+1) (by omega) (by omega),show (i:Int)+(k:Int)+1=((i+k+1:Nat):Int) from rfl,Wh (by omega) hs]
      rw [List.drop_drop,show i+(k+1)=i+k+1 by omega]
      simp only [aQ]
      cases h5:qO false true (s.drop (i+k+1)) with
      | none=>rfl
      | some y =>
       obtain ⟨b,m,is⟩:=y
       have hm:=Ev h5
       rw [List.length_drop] at hm
       simp only [Lj]
       rw [aF (by simp; omega)]
       cases is
       ·simp only [Bool.not_false,bV,Bool.and_false,Bool.false_and,cond_false]
       cases may
       ·simp only [Bool.not_false,bV,Bool.not_true,bC,Bool.false_and,cond_false]
       rw [aF (b:=!true) rfl,aF (b:=!true) rfl]
       by_cases hba:b.toNat < a.toNat
       ·rw [aK (by exact decide_eq_true (by omega)),decide_eq_true hba]; rfl
       ·have hR2:dH n ((a.toNat:Int),(b.toNat:Int))=some (bx (bU a.toNat b.toNat)):=wO hn a.toNat_lt b.toNat_lt
        rw [aF (by exact decide_eq_false (by omega)),decide_eq_false hba,hR2]
        simp only [aQ,Bool.not_false,Bool.and_true,cond_true]
        rw [Dz hn,bD (x:=1+(m:Int)) (by omega) (by omega),bD (by omega) (by omega)]
        simp only [aQ]
        rw [show (i:Int)+(k:Int)+(1+(m:Int))=((i+(k+1+m):Nat):Int) by omega]
  ·rw [aF (by simp; omega),decide_eq_false h4,Bool.and_false]
   simp only [mI,cond_false]
   exact J8f _ rfl
def oJ:Nat->Bool->(Nat->Bool)->List UInt8->Option ((Nat->Bool) × Nat)
 | 0,_,_,_=>none
 | f+1,first,q,r =>
  bif [93].isPrefixOf r && !first then some (q,1)
  else match yI first r with
   | none=>none
   | some (p,k)=>match oJ f false (fun j=>q j || p j) (r.drop k) with
    | none=>none
    | some (x,m)=>some (x,k+m)
def fJ (p:Nat->Bool):Bool:=(List.range 256).all fun i=>!p i
def Bq (s:List UInt8):Option ((Nat->Bool) × Nat) :=
 bif [91].isPrefixOf s then
  let no:=[94].isPrefixOf (s.drop 1)
  let i:=bif no then 2 else 1
  match oJ (s.length+1) true (fun _=>false) (s.drop i) with
  | none=>none
  | some (p,k) =>
   let p':=bif no then (fun j=>!p j) else p
   bif fJ p' then none else some (p',i+k)
 else none
theorem zPt:∀ {f:Nat} {first:Bool} {q:Nat->Bool} {r:List UInt8} {p:Nat->Bool} {k:Nat},oJ f first q r=some (p,k)->1 <= k∧k <= r.length
 | 0,_,_,_,_,_,h=>absurd h (by simp [oJ])
 | f+1,first,q,r,p,k,h=>by
  unfold oJ at h
  cases h0:[93].isPrefixOf r && !first <;> simp only [h0,cond_true,cond_false] at h
  ·cases h1:yI first r with
   | none=>rw [h1] at h; exact absurd h (by simp)
   | some x =>
    obtain ⟨p1,k1⟩:=x
    rw [h1] at h
    simp only at h
    have hk1:=Wi h1
    cases h2:oJ f false (fun j=>q j || p1 j) (r.drop k1) with
    | none=>rw [h2] at h; exact absurd h (by simp)
    | some y =>
     obtain ⟨p2,k2⟩:=y
     rw [h2] at h
     have hk2:=zPt h2
     rw [List.length_drop] at hk2
     simp only [aA,aB] at h; omega
  ·simp only [aG] at h0
   have:=iT h0.1
   simp only [List.length_cons,List.length_nil,aA,aB] at this h; omega
theorem zCg {s:List UInt8} {p:Nat->Bool} {k:Nat} (h:Bq s=some (p,k)):1 <= k∧k <= s.length:=by
 unfold Bq at h
 cases h0:[91].isPrefixOf s <;> simp only [h0,cond_true,cond_false] at h
 ·exact absurd h (by simp)
 ·cases h1:oJ (s.length+1) true (fun _=>false) (s.drop (bif [94].isPrefixOf (s.drop 1) then 2 else 1)) with
  | none=>rw [h1] at h; exact absurd h (by simp)
  | some x =>
   obtain ⟨q,j⟩:=x
   rw [h1] at h
   have hj:=zPt h1
   rw [List.length_drop] at hj
   simp only at h
   cases h2:fJ (bif [94].isPrefixOf (s.drop 1) then (fun j=>!q j) else q) <;> simp only [h2,cond_true,cond_false] at h
   ·simp only [aA,aB] at h; omega
   ·exact absurd h (by simp)
theorem vS {p:Nat->Bool}:Ty.beq (.arr 4 (.int .u64)) (wd p) [0,0,0,0]=fJ p:=by
 rw [Bool.eq_iff_iff,<- pV,yOd,pV,yJs,fJ,List.all_eq_true]
 simp
theorem Wj {p:Nat->Bool}:(((Bp p).length:Int) == 0)=fJ p:=by
 rw [Bool.eq_iff_iff,fJ,List.all_eq_true,beq_iff_eq]
 have:=@zSa p
 rw [show (((Bp p).length:Int)=0) <-> (Bp p).length=0 by omega,this]
 simp
def Wm (s:List UInt8) (i:Nat) (no:Bool) (o:Option ((Nat->Bool) × Nat)) (e:Option (Sum (List Int × List UInt8 × Int × Unit) (Int × Int × List Int × List UInt8 × Int × Unit))):Prop:=match o with
 | some (p,k)=>bif fJ (bif no then (fun j=>!p j) else p) then ∃ a w,e=some (.inr (42,0,w,s,a,())) else e=some (.inl (wd (bif no then (fun j=>!p j) else p),s,((i+k:Nat):Int),()))
 | none=>∃ a w,e=some (.inr (42,0,w,s,a,()))
theorem yDj {n:Nat} {s:List UInt8} {no:Bool} (hn:300 <= n) (hs:s.length < 1000000):∀ (f:Nat) (i m:Nat) (first:Bool) (q:Nat->Bool),i <= s.length->s.length - i < f->f <= m ->
  Wm s i no (oJ f first q (s.drop i)) (fix (kX n) m (no,first,wd q,s,(i:Int),())):=by
 intro f
 induction f with
 | zero=>intro i m first q _ h; omega
 | succ f ih =>
  intro i m first q hi hf hm
  rw [dL (by omega),kX]
  simp only
  have hO:∀ p:Nat->Bool,oD n [wd q,wd p]=some (wd fun j=>q j || p j):=by
   intro p
   have:=zJr (n:=n) [q,p] (by omega) (by simp; omega) (by simp)
   simpa using this
  have hpart:Wm s i no (match yI first (s.drop i) with
   | none=>none
   | some (p,k)=>match oJ f false (fun j=>q j || p j) ((s.drop i).drop k) with
    | none=>none
    | some (x,m)=>some (x,k+m)) (ob2 (mW n (first,s,(i:Int),())) (fun y13 =>
   ob (oD n [wd q,y13.1]) fun y14 =>
   fix (kX n) (m - 1) (no,false,y14,y13.2.1,y13.2.2.1,())) (fun y13 =>
   some (.inr (y13.1,y13.2.1,wd q,y13.2.2.1,y13.2.2.2.1,())))):=by
   have hp:=yGo (n:=n) (first:=first) hn hi hs
   cases h1:yI first (s.drop i) with
   | none =>
    rw [h1] at hp
    obtain ⟨a,hp⟩:=hp
    rw [hp]
    exact ⟨_,_,rfl⟩
   | some x =>
    obtain ⟨p,k⟩:=x
    rw [h1] at hp
    simp only [zFo] at hp
    have hk:=Wi h1
    rw [List.length_drop] at hk
    rw [hp]
    simp only [zXa]
    rw [hO p]
    simp only [aQ]
    have:=ih (i+k) (m - 1) false (fun j=>q j || p j) (by omega) (by omega) (by omega)
    rw [List.drop_drop]
    cases h2:oJ f false (fun j=>q j || p j) (s.drop (i+k)) with
    | none=>rw [h2] at this; exact this
    | some y =>
     obtain ⟨p2,k2⟩:=y
     rw [h2] at this
     simp only [Wm] at this ⊢
     rw [show i+(k+k2)=i+k+k2 by omega]
     exact this
  unfold oJ
  cases first
  case true =>
   simp only [bV,Bool.not_true,Bool.and_false,cond_false]
   exact hpart
  simp only [bC,Bool.not_false,Bool.and_true]
  cases h0:[93].isPrefixOf (s.drop i)
  ·rw [nR hi h0]
   simp only [aQ,Bool.not_false,bV,cond_false]
   exact hpart
  ·rw [nQ hi hs h0]
   simp only [aQ,Bool.not_true,bC,cond_true,Wm]
   cases no
   ·simp only [bC,cond_false]
    cases hq:fJ q
    ·simp only [cond_false]
     rw [aF (by exact vS.trans hq)]; rfl
    ·simp only [cond_true]
     refine ⟨((i+[93].length:Nat):Int),wd q,?_⟩
     rw [aK (by exact vS.trans hq)]; rfl
   ·simp only [bV,cond_true,zFk (n:=n) (by omega),aQ]
    cases hq:fJ (fun j=>!q j)
    ·simp only [cond_false]
     rw [aF (by exact vS.trans hq)]; rfl
    ·simp only [cond_true]
     refine ⟨((i+[93].length:Nat):Int),wd (fun j=>!q j),?_⟩
     rw [aK (by exact vS.trans hq)]; rfl
def yDk:Option ((Nat->Bool) × Nat)->List Int × Int × Int
 | some (p,k)=>(wd p,((k:Nat):Int),0)
 | none=>([0,0,0,0],0,42)
theorem zHv {n:Nat} {s:List UInt8} (hn:400 <= n) (hsn:s.length+10 < n) (hs:s.length < 1000000):qY n s=some (yDk (Bq s)):=by
 have hT:∀ e:Option (Sum (List Int × List UInt8 × Int × Unit) (Int × Int × List Int × List UInt8 × Int × Unit)),kP n ([0,0,0,0],s,0,())=e->qY n s=ob (ob2 e (fun y=>some (0,0,y)) (fun y=>some y)) fun y1=>br (y1.1 != 0) (some ([0,0,0,0],0,y1.1)) (some (y1.2.2.1,y1.2.2.2.2.1,0)):=by
  intro e he
  unfold qY gF
  simp only
  rw [he]
 have hB:∀ a w,kP n ([0,0,0,0],s,0,())=some (.inr (42,0,w,s,a,()))->qY n s=some ([0,0,0,0],0,42):=by
  intro a w h; rw [hT _ h]; rfl
 have h0:kP n ([0,0,0,0],s,0,())=br (![91].isPrefixOf s) (some (.inr (42,0,[0,0,0,0],s,0,()))) (fix (kX n) n ([94].isPrefixOf (s.drop 1),true,wd (fun _=>false),s,((bif [94].isPrefixOf (s.drop 1) then 2 else 1:Nat):Int),())):=by
  unfold kP
  simp only
  rw [show (0:Int)=((0:Nat):Int) from rfl]
  cases h1:[91].isPrefixOf s
  ·rw [nR (by omega) (by rw [List.drop_zero]; exact h1)]; rfl
  ·rw [nQ (by omega) hs (by rw [List.drop_zero]; exact h1)]
   have hl:=iT h1
   simp only [List.length_cons,List.length_nil] at hl
   simp only [aQ,Bool.not_true,bC]
   rw [show 0+([91]:List UInt8).length=1 from rfl]
   cases h2:[94].isPrefixOf (s.drop 1)
   ·rw [nR (by omega) h2,pV]; rfl
   ·rw [nQ (by omega) hs h2,pV]; rfl
 unfold Bq
 cases h1:[91].isPrefixOf s
 ·rw [h1] at h0; simp only [Bool.not_false,bV] at h0
  rw [hB _ _ h0]; rfl
 ·rw [h1] at h0; simp only [Bool.not_true,bC] at h0
  simp only [cond_true]
  have hi:(bif [94].isPrefixOf (s.drop 1) then 2 else 1) <= s.length:=by
   have hl:=iT h1
   simp only [List.length_cons,List.length_nil] at hl
   cases h2:[94].isPrefixOf (s.drop 1)
   ·simp only [cond_false]; omega
   ·have hl2:=iT h2
    rw [List.length_drop] at hl2
    simp only [List.length_cons,List.length_nil] at hl2
    simp only [cond_true]; omega
  have hL:=yDj (n:=n) (s:=s) (no:=[94].isPrefixOf (s.drop 1)) (by omega) hs (s.length+1) _ n true (fun _=>false) hi (by omega) (by omega)
  rw [<- h0] at hL
  cases h3:oJ (s.length+1) true (fun _=>false) (s.drop (bif [94].isPrefixOf (s.drop 1) then 2 else 1)) with
  | none =>
   rw [h3] at hL
   obtain ⟨a,w,hL⟩:=hL
   rw [hB _ _ hL]; rfl
  | some x =>
   obtain ⟨p,k⟩:=x
   rw [h3] at hL
   simp only [Wm] at hL
   simp only
   cases h4:fJ (bif [94].isPrefixOf (s.drop 1) then (fun j=>!p j) else p) <;> rw [h4] at hL <;> simp only [cond_true,cond_false] at hL ⊢
   ·rw [hT _ hL]; rfl
   ·obtain ⟨a,w,hL⟩:=hL
    rw [hB _ _ hL]; rfl
def Wn:Option ((Nat->Bool) × Nat)->(Nat->Bool) × Int × Int
 | some (p,k)=>(p,((k:Nat):Int),0)
 | none=>(fun _=>false,0,42)
theorem yDl {n:Nat} {s:List UInt8} {no:Bool} {b1:List Bool} (hn:300 <= n) (hsn:s.length < n) (hs:s.length < 1000000):∀ (f:Nat) (i m:Nat) (first:Bool) (q:Nat->Bool),i <= s.length->s.length - i < f->f <= m ->
  fix (oV n) m (s,(i:Int),no,first,b1,bx (fun _=>false),bx q,())=match oJ f first q (s.drop i) with
   | some (p,k)=>bif fJ (bif no then (fun j=>!p j) else p) then some (bx (fun _=>false),0,42) else some (bx (bif no then (fun j=>!p j) else p),((i+k:Nat):Int),0)
   | none=>some (bx (fun _=>false),0,42):=by
 intro f
 induction f with
 | zero=>intro i m first q _ h; omega
 | succ f ih =>
  intro i m first q hi hf hm
  rw [dL (by omega),oV]
  simp only
  have hlen:(s.drop i).length=s.length - i:=List.length_drop
  have hpart:iD n (fix (oV n) (m - 1)) (s,(i:Int),no,first,b1,bx (fun _=>false),bx q,())=match (match yI first (s.drop i) with
   | none=>none
   | some (p,k)=>match oJ f false (fun j=>q j || p j) ((s.drop i).drop k) with
    | none=>none
    | some (x,m)=>some (x,k+m)) with
   | some (p,k)=>bif fJ (bif no then (fun j=>!p j) else p) then some (bx (fun _=>false),0,42) else some (bx (bif no then (fun j=>!p j) else p),((i+k:Nat):Int),0)
   | none=>some (bx (fun _=>false),0,42):=by
   rw [yDi hn hsn hi hs]
   cases h1:yI first (s.drop i) with
   | none=>rfl
   | some x =>
    obtain ⟨p,k⟩:=x
    have hk:=Wi h1
    rw [List.length_drop] at hk
    simp only
    rw [ih (i+k) (m - 1) false _ (by omega) (by omega) (by omega),List.drop_drop]
    cases h2:oJ f false (fun j=>q j || p j) (s.drop (i+k)) with
    | none=>rfl
    | some y =>
     obtain ⟨p2,k2⟩:=y
     simp only
     rw [show i+(k+k2)=i+k+k2 by omega]
  have J2:1 <= (s.drop i).length->tZ n (IntKind.wrap .i64 ((i:Int)+1),no,b1,bx (fun _=>false),bx q,())=bif fJ (bif no then (fun j=>!q j) else q) then some (bx (fun _=>false),0,42) else some (bx (bif no then (fun j=>!q j) else q),((i+1:Nat):Int),0):=by
   intro h
   rw [bD (by omega) (by omega)]
   unfold tZ
   simp only [mI]
   cases no
   ·simp only [bC,cond_false,oP,Rv hn,aQ,Wj]
    cases fJ q <;> rfl
   ·simp only [bV,cond_true,zPr hn,oP,Rv hn,aQ,Wj]
    cases fJ (fun j=>!q j) <;> rfl
  rw [oJ]
  cases hr:s.drop i with
  | nil =>
   rw [hr] at hlen hpart
   simp only [List.length_nil] at hlen
   rw [aF (by simp; omega),mI,hpart]
   rfl
  | cons c t =>
   rw [hr] at hlen hpart J2
   simp only [List.length_cons] at hlen
   have e0:aU 0 s (i:Int)=c:=sV (i:=i) (j:=0) (by rw [hr]; rfl)
   rw [aK (by simp; omega),aD (qW (by omega)),e0,(cI c).2.2.2.2.2.2.1,mI,mI]
   rw [show [93].isPrefixOf (c :: t)=(93 == c) by simp [List.isPrefixOf]]
   cases (93 == c)
   ·simp only [bC,Bool.false_and,cond_false]
    exact hpart
   ·cases first
    ·simp only [bV,Bool.not_false,Bool.and_true,cond_true]
     exact J2 (by simp)
    ·simp only [bV,bC,Bool.not_true,Bool.and_false,cond_false]
     exact hpart
theorem zCh {n:Nat} {s:List UInt8} (hn:400 <= n) (hsn:s.length+10 < n) (hs:s.length < 1000000):tK n s=some (bx (Wn (Bq s)).1,(Wn (Bq s)).2.1,(Wn (Bq s)).2.2):=by
 unfold tK Bq
 simp only
 cases s with
 | nil=>rw [aK (by rfl),<- Df]; rfl
 | cons c t =>
  rw [aF (by simp; omega),aD (eU (by omega) (by simp))]
  rw [show aU 0 (c :: t) 0=c from rfl,bne,(cI c).1,mI,show [91].isPrefixOf (c :: t)=(91 == c) by simp [List.isPrefixOf]]
  cases (91 == c)
  ·simp only [Bool.not_false,bV,cond_false,<- Df]; rfl
  simp only [Bool.not_true,bC,cond_true,List.drop_one,List.tail_cons]
  have J1:∀ (i:Nat) (no:Bool),i <= (c :: t).length->kY n (c :: t,(i:Int),no,List.replicate 256 false,List.replicate 256 false,())=match oJ ((c :: t).length+1) true (fun _=>false) ((c :: t).drop i) with
   | some (p,k)=>bif fJ (bif no then (fun j=>!p j) else p) then some (bx (fun _=>false),0,42) else some (bx (bif no then (fun j=>!p j) else p),((i+k:Nat):Int),0)
   | none=>some (bx (fun _=>false),0,42):=by
   intro i no hi
   unfold kY
   simp only
   rw [<- Df]
   exact yDl (by omega) (by omega) hs ((c :: t).length+1) i n true _ hi (by omega) (by omega)
  have fin:∀ (i:Nat) (no:Bool),(match oJ ((c :: t).length+1) true (fun _=>false) ((c :: t).drop i) with
   | some (p,k)=>bif fJ (bif no then (fun j=>!p j) else p) then some (bx (fun _=>false),0,42) else some (bx (bif no then (fun j=>!p j) else p),((i+k:Nat):Int),0)
   | none=>some (bx (fun _=>false),0,42))=some (bx (Wn (match oJ ((c :: t).length+1) true (fun _=>false) ((c :: t).drop i) with
    | none=>none
    | some (p,k)=>bif fJ (bif no then (fun j=>!p j) else p) then none else some (bif no then (fun j=>!p j) else p,i+k))).1,(Wn (match oJ ((c :: t).length+1) true (fun _=>false) ((c :: t).drop i) with
    | none=>none
    | some (p,k)=>bif fJ (bif no then (fun j=>!p j) else p) then none else some (bif no then (fun j=>!p j) else p,i+k))).2.1,(Wn (match oJ ((c :: t).length+1) true (fun _=>false) ((c :: t).drop i) with
    | none=>none
    | some (p,k)=>bif fJ (bif no then (fun j=>!p j) else p) then none else some (bif no then (fun j=>!p j) else p,i+k))).2.2):=by
   intro i no
   cases oJ ((c :: t).length+1) true (fun _=>false) ((c :: t).drop i) with
   | none=>rfl
   | some x =>
    obtain ⟨p,k⟩:=x
    simp only
    cases fJ (bif no then (fun j=>!p j) else p) <;> rfl
  unfold Bz
  simp only [mI]
  cases t with
  | nil =>
   rw [aF (by simp),show (1:Int)=((1:Nat):Int) from rfl,J1 1 false (by simp),fin]; rfl
  | cons d t =>
   rw [aK (by simp; omega),aD (eU (by omega) (by simp; omega)),show aU 0 (c :: d :: t) 1=d from rfl,(cI d).2.2.2.2.2.2.2.2,show [94].isPrefixOf (d :: t)=(94 == d) by simp [List.isPrefixOf]]
   cases (94 == d)
   ·simp only [bC,cond_false]
    rw [show (1:Int)=((1:Nat):Int) from rfl,J1 1 false (by simp),fin]; rfl
   ·simp only [bV,cond_true]
    rw [show IntKind.wrap .i64 (1+1)=((2:Nat):Int) from rfl,J1 2 true (by simp),fin]; rfl
end Go.Dec
