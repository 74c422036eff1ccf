/- Part of a proof over this seat: a library of my own, and what it says of this seat. No statement is proved here. -/
import Derived.Test.YthhbdkdofhhoeaaGreatDoorPartBO
namespace Go.Dec
theorem Ot {n:Nat} {r t:List UInt8}:strings_HasPrefix n (r,t)=some (t.isPrefixOf r):=by
 unfold strings_HasPrefix gN
 simp only
 by_cases h:t.length <= r.length
 ·rw [aO (by simp; omega),aF (by simp; omega)]
  simp only [aW,Int.toNat_natCast]
  congr 1
  rw [Bool.eq_iff_iff,List.isPrefixOf_iff_prefix,List.prefix_iff_eq_take,beq_iff_eq]
  exact eq_comm
 ·rw [aJ (by simp; omega)]
  simp only [aW]
  congr 1
  symm
  rw [Bool.eq_false_iff,ne_eq,List.isPrefixOf_iff_prefix]
  intro hp
  have:=hp.length_le
  omega
theorem jQ {n:Nat} {s t:List UInt8} {i:Nat} (hi:i <= s.length):dX n (t,s,(i:Int),())=some (t.isPrefixOf (s.drop i),s,(i:Int),()):=by
 unfold dX
 simp only
 rw [aF (by simp; omega),Ot]; rfl
theorem mI {r t:List UInt8} (h:t.isPrefixOf r=true):t.length <= r.length:=by
 rw [List.isPrefixOf_iff_prefix] at h; exact h.length_le
theorem mD {n:Nat} {s t:List UInt8} {i:Nat} (hi:i <= s.length) (hs:s.length < 1000000) (h:t.isPrefixOf (s.drop i)=true):dL n (t,s,(i:Int),())=some (true,s,((i+t.length:Nat):Int),()):=by
 have hl:=mI h
 rw [List.length_drop] at hl
 unfold dL
 simp only
 rw [jQ hi]
 simp only [aW,h,Bool.not_true,bX]
 rw [dY (by omega) (by omega)]; rfl
theorem mE {n:Nat} {s t:List UInt8} {i:Nat} (hi:i <= s.length) (h:t.isPrefixOf (s.drop i)=false):dL n (t,s,(i:Int),())=some (false,s,(i:Int),()):=by
 unfold dL
 simp only
 rw [jQ hi]
 simp only [aW,h,Bool.not_false,eU]
theorem Kc {s:List UInt8} {i j:Nat} {d c:UInt8} (h:(s.drop i)[j]?=some c):bK d s ((i+j:Nat):Int)=c:=by
 rw [List.getElem?_drop] at h
 unfold bK
 rw [Int.toNat_natCast,List.getD_eq_getElem?_getD,h]; rfl
theorem Ag {s t:List UInt8} {i:Nat} {a:UInt8} (h:s.drop i=a :: t):s.drop (i+1)=t∧i < s.length:=by
 refine ⟨?_,?_⟩
 ·rw [<- List.drop_drop,h]; rfl
 ·have:=congrArg List.length h
  rw [List.length_drop,List.length_cons] at this; omega
theorem Fv {r:List UInt8} {a b:UInt8} (h:[a,b].isPrefixOf r=true):∃ t,r=a :: b :: t:=by
 rw [List.isPrefixOf_iff_prefix] at h
 obtain ⟨t,rfl⟩:=h
 exact ⟨t,rfl⟩
theorem zYd {r:List UInt8} {a:UInt8} (h:[a].isPrefixOf r=true):∃ t,r=a :: t:=by
 rw [List.isPrefixOf_iff_prefix] at h
 obtain ⟨t,rfl⟩:=h
 exact ⟨t,rfl⟩
def vJ (x:UInt8) (b:Bool):List UInt8->Option (UInt8 × Nat × Bool)
 | _ :: _ :: c :: t=>bif [x,93].isPrefixOf t then some (c,5,b) else none
 | _=>none
def zQ (first ends:Bool) (r:List UInt8):Option (UInt8 × Nat × Bool) :=
 bif [91,46].isPrefixOf r then vJ 46 true r
 else bif [91,61].isPrefixOf r then vJ 61 false r
 else bif [92,110].isPrefixOf r then some (10,2,true)
 else bif [91,58].isPrefixOf r then none
 else bif [93].isPrefixOf r && !first then none
 else bif [45].isPrefixOf r && !first && !ends && !([45,93].isPrefixOf r) then none
 else match r with | []=>none | c :: _=>some (c,1,true)
theorem zPs {x:UInt8} {b:Bool} {c:UInt8} {k:Nat} {m:Bool}:∀ {r:List UInt8},vJ x b r=some (c,k,m)->1 <= k∧k <= r.length
 | [],h=>absurd h (by simp [vJ])
 | [_],h=>absurd h (by simp [vJ])
 | [_,_],h=>absurd h (by simp [vJ])
 | _ :: _ :: d :: t,h=>by
  unfold vJ at h
  cases hp:[x,93].isPrefixOf t <;> simp only [hp,cond_true,cond_false] at h
  ·exact absurd h (by simp)
  ·have:=mI hp
   simp only [List.length_cons,List.length_nil,aA,aB] at this h ⊢
   omega
theorem Ou {first ends:Bool} {r:List UInt8} {c:UInt8} {k:Nat} {m:Bool} (h:zQ first ends r=some (c,k,m)):1 <= k∧k <= r.length:=by
 have mk:∀ {x:UInt8} {b:Bool},vJ x b r=some (c,k,m)->1 <= k∧k <= r.length:=fun h=>zPs h
 unfold zQ at h
 cases h1:[91,46].isPrefixOf r <;> simp only [h1,cond_true,cond_false] at h
 ·cases h2:[91,61].isPrefixOf r <;> simp only [h2,cond_true,cond_false] at h
  ·cases h3:[92,110].isPrefixOf r <;> simp only [h3,cond_true,cond_false] at h
   ·cases h4:[91,58].isPrefixOf r <;> simp only [h4,cond_true,cond_false] at h
    ·cases h5:[93].isPrefixOf r && !first <;> simp only [h5,cond_true,cond_false] at h
     ·cases h6:[45].isPrefixOf r && !first && !ends && !([45,93].isPrefixOf r) <;> simp only [h6,cond_true,cond_false] at h
      ·split at h
       ·exact absurd h (by simp)
       ·simp only [aA,aB,List.length_cons] at h ⊢
        omega
      ·exact absurd h (by simp)
     ·exact absurd h (by simp)
    ·exact absurd h (by simp)
   ·have:=mI h3
    simp only [List.length_cons,List.length_nil,aA,aB] at this h
    omega
  ·exact mk h
 ·exact mk h
def uX (s:List UInt8) (i:Nat) (o:Option (UInt8 × Nat × Bool)) (e:Option (Sum (Int × Bool × List UInt8 × Int × Unit) (Int × Int × List UInt8 × Int × Unit))):Prop:=match o with
 | some (c,k,m)=>e=some (.inl ((c.toNat:Int),m,s,((i+k:Nat):Int),()))
 | none=>∃ a,e=some (.inr (42,0,s,a,()))
theorem qV {n:Nat} {x:List UInt8 × Int × Unit}:bE n x=some (.inr (42,0,x)):=rfl
theorem Rz {n : Nat} {s : List UInt8} {i : Nat} {mk : UInt8} {t : List UInt8} (hi : i <= s.length) (hs : s.length < 1000000) (hr : s.drop i = 91 :: mk :: t) :
    uX s i (vJ mk ([mk] == [46]) (s.drop i))
      (br ((s.length : Int) == ((i + 2 : Nat) : Int)) (ob2 (bE n (s, ((i + 2 : Nat) : Int), ())) (fun y17 => none) (fun y17 => some (.inr (y17.1, y17.2.1, y17.2.2.1, y17.2.2.2.1, ()))))
        (chk ((decide (0 <= IntKind.wrap .i64 (((i + 2 : Nat) : Int) + 1)) && decide (IntKind.wrap .i64 (((i + 2 : Nat) : Int) + 1) <= (s.length : Int)))) (
                chk (decide (([mk] : List UInt8).length + ([93] : List UInt8).length <= aM)) (
                  ob (strings_HasPrefix n (s.drop (IntKind.wrap .i64 (((i + 2 : Nat) : Int) + 1)).toNat, [mk] ++ [93])) fun y19 =>
                  br (!y19) (
                    ob2 (bE n (s, ((i + 2 : Nat) : Int), ())) (fun y20 =>
                      none) (fun y20 =>
                      some (.inr (y20.1, y20.2.1, y20.2.2.1, y20.2.2.2.1, ())))) (
                    jn (oI n) ([mk], s, ((i + 2 : Nat) : Int), ())))))) := by
  obtain ⟨h1, h1'⟩ := Ag hr
  obtain ⟨h2, h2'⟩ := Ag h1
  have hlen : s.length = i + 2 + t.length := by
    have := congrArg List.length hr
    simp only [List.length_drop, List.length_cons] at this; omega
  rw [hr]
  cases t with
  | nil =>
    simp only [List.length_nil] at hlen
    rw [aO (by simp; omega), qV]
    simp only [vI, uX, vJ]
    exact ⟨_, rfl⟩
  | cons c t =>
    simp only [List.length_cons] at hlen
    obtain ⟨h3, h3'⟩ := Ag h2
    rw [aJ (by simp; omega)]
    have hw : IntKind.wrap .i64 (((i + 2 : Nat) : Int) + 1) = ((i + 1 + 1 + 1 : Nat) : Int) := by rw [dY (by omega) (by omega)]; omega
    rw [hw, aF (by simp; omega), aF (by simp [aM]), Int.toNat_natCast, h3, Ot]
    simp only [aW, List.cons_append, List.nil_append]
    cases hp : [mk, 93].isPrefixOf t
    · simp only [Bool.not_false, eU, qV, vI, cond_false, uX, vJ, hp]
      exact ⟨_, rfl⟩
    · simp only [Bool.not_true, bX, cond_true, uX, zYa, oI, vJ, hp]
      have := mI hp
      simp only [List.length_cons, List.length_nil] at this
      rw [aF (wX (by omega)), dY (by omega) (by omega), show ((i + 2 : Nat) : Int) = ((i + 2 : Nat) : Int) from rfl, Kc (c := c) (by rw [hr]; rfl)]
      rfl
theorem Ya {n : Nat} {s : List UInt8} {i : Nat} {first ends : Bool} (hn : 3 <= n) (hi : i <= s.length) (hs : s.length < 1000000) : uX s i (zQ first ends (s.drop i)) (kD n (first, ends, s, (i : Int), ())) := by
  obtain ⟨m, rfl⟩ : ∃ m, n = m + 3 := ⟨n - 3, by omega⟩
  have hlen : (s.drop i).length = s.length - i := List.length_drop
  have hin : ∀ {t : List UInt8}, t.isPrefixOf (s.drop i) = true -> i + t.length <= s.length := fun h => by have := mI h; omega
  unfold kD zQ
  simp only
  rw [Tx, kJ]
  simp only
  rw [aO (by rfl), aF (by rfl), aF (by rfl), aF (by rfl)]
  rw [show [91] ++ List.getD [[46], [61]] (0 + Int.toNat 0) (Ty.dflt .str) = ([91, 46] : List UInt8) from rfl, show List.getD [[46], [61]] (0 + Int.toNat 0) (Ty.dflt .str) = ([46] : List UInt8) from rfl]
  cases h1 : [91, 46].isPrefixOf (s.drop i)
  case true =>
    obtain ⟨t, ht⟩ := Fv h1
    rw [mD hi hs h1]
    simp only [aW, Bool.not_true, bX, cond_true]
    exact Rz hi hs ht
  rw [mE hi h1]
  simp only [aW, Bool.not_false, eU, cond_false]
  rw [show IntKind.wrap .i64 (0 + 1) = 1 from rfl, Tx, kJ]
  simp only
  rw [aO (by rfl), aF (by rfl), aF (by rfl), aF (by rfl)]
  rw [show [91] ++ List.getD [[46], [61]] (0 + Int.toNat 1) (Ty.dflt .str) = ([91, 61] : List UInt8) from rfl, show List.getD [[46], [61]] (0 + Int.toNat 1) (Ty.dflt .str) = ([61] : List UInt8) from rfl]
  cases h2 : [91, 61].isPrefixOf (s.drop i)
  case true =>
    obtain ⟨t, ht⟩ := Fv h2
    rw [mD hi hs h2]
    simp only [aW, Bool.not_true, bX, cond_true]
    exact Rz hi hs ht
  rw [mE hi h2]
  simp only [aW, Bool.not_false, eU, cond_false]
  rw [show IntKind.wrap .i64 (1 + 1) = 2 from rfl, Tx, kJ]
  simp only
  rw [aJ (by rfl)]
  cases h3 : [92, 110].isPrefixOf (s.drop i)
  case true =>
    rw [mD hi hs h3]
    simp only [aW, eU, cond_true, uX]
    rfl
  rw [mE hi h3]
  have zZx : ∀ {c : UInt8} {t : List UInt8}, s.drop i = c :: t -> iN (m + 3) (s, (i : Int), ()) = some (.inl ((c.toNat : Int), true, s, ((i + 1 : Nat) : Int), ())) := by
    intro c t hr
    obtain ⟨_, h⟩ := Ag hr
    unfold iN
    simp only
    have e : IntKind.wrap .i64 (IntKind.wrap .i64 ((i : Int) + 1) - 1) = ((i + 0 : Nat) : Int) := by
      rw [dY (x := (i : Int) + 1) (by omega) (by omega), dY (by omega) (by omega)]; omega
    rw [e, aF (wX (by omega)), Kc (c := c) (by rw [hr]; rfl), dY (by omega) (by omega)]; rfl
  have zDn : ∀ bare : Bool, uX s i (bif [91, 58].isPrefixOf (s.drop i) then none
      else bif [93].isPrefixOf (s.drop i) && !first then none
      else bif bare then none
      else match s.drop i with | [] => none | c :: _ => some (c, 1, true)) (gI (m + 3) (first, bare, s, (i : Int), ())) := by
    intro bare
    unfold gI
    simp only
    cases hr : s.drop i with
    | nil =>
      rw [hr] at hlen
      simp only [List.length_nil] at hlen
      rw [aO (by simp; omega), qV]
      simp only [vI]
      cases first <;> cases bare <;> exact ⟨_, rfl⟩
    | cons c t =>
      obtain ⟨_, hlt⟩ := Ag hr
      rw [aJ (by simp; omega), jQ hi]
      simp only [aW]
      rw [<- hr]
      cases h4 : [91, 58].isPrefixOf (s.drop i)
      case true =>
        simp only [eU, qV, vI, cond_true]
        exact ⟨_, rfl⟩
      simp only [bX, cond_false]
      rw [jQ hi]
      simp only [aW]
      have hb : uX s i (bif bare then none else some (c, 1, true)) (br bare (
            ob2 (bE (m + 3) (s, (i : Int), ())) (fun y40 => none) (fun y40 => some (.inr (y40.1, y40.2.1, y40.2.2.1, y40.2.2.2.1, ())))) (
            jn (iN (m + 3)) (s, (i : Int), ()))) := by
        cases bare
        · simp only [bX, cond_false, zYa]
          rw [zZx hr]; rfl
        · simp only [eU, cond_true, qV, vI]
          exact ⟨_, rfl⟩
      cases h5 : [93].isPrefixOf (s.drop i)
      · simp only [bX, Bool.false_and, cond_false]
        exact hb
      · cases first
        · simp only [eU, Bool.not_false, Bool.true_and, cond_true, qV, vI]
          exact ⟨_, rfl⟩
        · simp only [eU, bX, Bool.not_true, Bool.and_false, cond_false]
          exact hb
  simp only [aW, bX, cond_false]
  rw [jQ hi]
  simp only [aW]
  cases h6 : [45].isPrefixOf (s.drop i)
  · simp only [bX, Bool.false_and]
    exact zDn false
  simp only [eU, Bool.true_and]
  cases first
  · simp only [Bool.not_false, eU, Bool.true_and]
    cases ends
    · simp only [Bool.not_false, eU, Bool.true_and]
      rw [jQ hi]
      simp only [aW]
      exact zDn _
    · simp only [Bool.not_true, bX, Bool.false_and]
      exact zDn false
  · simp only [Bool.not_true, bX, Bool.false_and]
    exact zDn false
def yZ:List UInt8->Option Nat
 | []=>none
 | c :: r=>bif [58,93].isPrefixOf (c :: r) then some 0 else (yZ r).map (· + 1)
theorem Ov:∀ {r:List UInt8} {k:Nat},yZ r=some k->[58,93].isPrefixOf (r.drop k)=true∧k+2 <= r.length
 | [],k,h=>absurd h (by simp [yZ])
 | c :: r,k,h=>by
  unfold yZ at h
  cases hp:[58,93].isPrefixOf (c :: r) <;> simp only [hp,cond_true,cond_false] at h
  ·cases hk:yZ r with
   | none=>rw [hk] at h; exact absurd h (by simp)
   | some j =>
    rw [hk] at h
    simp only [Option.map_some,aA] at h
    subst h
    obtain ⟨h1,h2⟩:=Ov hk
    exact ⟨h1,by simp only [List.length_cons]; omega⟩
  ·simp only [aA] at h
   subst h
   exact ⟨hp,by have:=mI hp; simpa using this⟩
theorem zBs:∀ r:List UInt8,Go.Lib.index r [58,93]=match yZ r with | some k=>((k:Nat):Int) | none=>-1
 | []=>by rfl
 | c :: r=>by
  have ih:=zBs r
  rw [Go.Lib.index,yZ]
  cases hp:[58,93].isPrefixOf (c :: r)
  ·simp only [Bool.false_eq_true,if_false,cond_false]
   rw [ih]
   cases yZ r with
   | none=>rfl
   | some k =>
    simp only [Option.map_some]
    rw [if_neg (by simp)]; rfl
  ·rfl
theorem zVs (r:List UInt8):Go.Lib.cut r [58,93]=match yZ r with | some k=>(r.take k,r.drop (k+2),true) | none=>(r,[],false):=by
 unfold Go.Lib.cut
 rw [zBs]
 cases yZ r with
 | none=>rfl
 | some k=>simp
def Ey (first:Bool) (r:List UInt8):Option ((Nat->Bool) × Nat) :=
 bif [91,58].isPrefixOf r then
  match yZ (r.drop 2) with
  | none=>none
  | some k=>match Ih ((r.drop 2).take k) with
   | some p=>some (p,k+4)
   | none=>none
 else match zQ first false r with
  | none=>none
  | some (a,k,may) =>
   bif [45].isPrefixOf (r.drop k) && !([45,93].isPrefixOf (r.drop k)) && decide (1 < (r.drop k).length) then
    match zQ false true (r.drop (k+1)) with
    | none=>none
    | some (b,m,is)=>bif may && is && !(decide (b.toNat < a.toNat)) then some (bP a.toNat b.toNat,k+1+m) else none
   else some (bP a.toNat a.toNat,k)
theorem zBt {first:Bool} {r:List UInt8} {p:Nat->Bool} {k:Nat} (h:Ey first r=some (p,k)):1 <= k∧k <= r.length:=by
 unfold Ey at h
 cases h0:[91,58].isPrefixOf r <;> simp only [h0,cond_true,cond_false] at h
 ·cases h1:zQ first false r with
  | none=>rw [h1] at h; exact absurd h (by simp)
  | some x =>
   obtain ⟨a,j,may⟩:=x
   have hl:=Ou h1
   rw [h1] at h
   simp only at h
   cases h2:[45].isPrefixOf (r.drop j) && !([45,93].isPrefixOf (r.drop j)) && decide (1 < (r.drop j).length) <;> simp only [h2,cond_true,cond_false] at h
   ·simp only [aA,aB] at h; omega
   ·cases h3:zQ false true (r.drop (j+1)) with
    | none=>rw [h3] at h; exact absurd h (by simp)
    | some y =>
     obtain ⟨b,m,is⟩:=y
     have hl3:=Ou h3
     rw [h3] at h
     simp only at h
     rw [List.length_drop] at hl3
     cases h4:may && is && !(decide (b.toNat < a.toNat)) <;> simp only [h4,cond_true,cond_false] at h
     ·exact absurd h (by simp)
     ·simp only [aA,aB] at h; omega
 ·cases h1:yZ (r.drop 2) with
  | none=>rw [h1] at h; exact absurd h (by simp)
  | some j =>
   rw [h1] at h
   simp only at h
   have:=(Ov h1).2
   rw [List.length_drop] at this
   cases h2:Ih ((r.drop 2).take j) with
   | none=>rw [h2] at h; exact absurd h (by simp)
   | some q =>
    rw [h2] at h
    simp only [aA,aB] at h; omega
def Yb (s:List UInt8) (i:Nat) (o:Option ((Nat->Bool) × Nat)) (e:Option (Sum (List Int × List UInt8 × Int × Unit) (Int × Int × List UInt8 × Int × Unit))):Prop:=match o with
 | some (p,k)=>e=some (.inl (wd p,s,((i+k:Nat):Int),()))
 | none=>∃ a,e=some (.inr (42,0,s,a,()))
theorem zVt {n:Nat} {s:List UInt8} {i:Nat} {first:Bool} (hn:300 <= n) (hi:i <= s.length) (hs:s.length < 1000000):Yb s i (Ey first (s.drop i)) (lH n (first,s,(i:Int),())):=by
 unfold lH Ey
 simp only
 cases h0:[91,58].isPrefixOf (s.drop i)
 case true =>
  have hl:=mI h0
  simp only [List.length_drop,List.length_cons,List.length_nil] at hl
  rw [mD hi hs h0]
  simp only [aW,eU,cond_true]
  rw [aF (by simp; omega),Int.toNat_natCast,strings_Cut,aF (by simp; omega),show ([91,58]:List UInt8).length=2 from rfl]
  simp only [aW]
  rw [zVs,List.drop_drop]
  have hC:=zNj (n:=n) hn
  cases h1:yZ (s.drop (i+2)) with
  | none =>
   simp only
   have h2:=hC (s.drop (i+2))
   have zUh:∀ (w:Bool),∀ (x:List Int),∃ a,(ob (ρ:=Sum (List Int × List UInt8 × Int × Unit) (Int × Int × List UInt8 × Int × Unit)) (some (x,w)) fun y8 =>
    br (!y8.2) (
    ob2 (bE n (s,IntKind.wrap .i64 (((i+2:Nat):Int)+((s.drop (i+2)).length:Int)),())) (fun y9 =>
     none) (fun y9 =>
     some (.inr (y9.1,y9.2.1,y9.2.2.1,y9.2.2.2.1,())))) (
    ob (dL n ([58,93],s,IntKind.wrap .i64 (((i+2:Nat):Int)+((s.drop (i+2)).length:Int)),())) fun y10 =>
    br (!y10.1) (
     ob2 (bE n (y10.2.1,y10.2.2.1,())) (fun y11 =>
      none) (fun y11 =>
      some (.inr (y11.1,y11.2.1,y11.2.2.1,y11.2.2.2.1,())))) (
     some (.inl (y8.1,y10.2.1,y10.2.2.1,())))))=some (.inr (42,0,s,a,())):=by
    intro w x
    simp only [aW]
    cases w
    ·simp only [Bool.not_false,eU,qV,vI]
     exact ⟨_,rfl⟩
    ·simp only [Bool.not_true,bX]
     have e:IntKind.wrap .i64 (((i+2:Nat):Int)+((s.drop (i+2)).length:Int))=((s.length:Nat):Int):=by
      rw [List.length_drop,dY (by omega) (by omega)]; omega
     rw [e,mE (aR _) (by simp)]
     simp only [aW,Bool.not_false,eU,qV,vI]
     exact ⟨_,rfl⟩
   cases hc:Ih (s.drop (i+2)) with
   | none=>rw [hc] at h2; rw [h2.1]; exact zUh _ _
   | some p=>rw [hc] at h2; rw [h2.1]; exact zUh _ _
  | some k =>
   simp only
   obtain ⟨k1,k2⟩:=Ov h1
   rw [List.length_drop] at k2
   rw [List.drop_drop] at k1
   have h2:=hC ((s.drop (i+2)).take k)
   have e:IntKind.wrap .i64 (((i+2:Nat):Int)+(((s.drop (i+2)).take k).length:Int))=((i+2+k:Nat):Int):=by
    rw [List.length_take,List.length_drop,dY (by omega) (by omega)]; omega
   rw [e]
   cases hc:Ih ((s.drop (i+2)).take k) with
   | none =>
    rw [hc] at h2; rw [h2.1]
    simp only [aW,Bool.not_false,eU,qV,vI]
    exact ⟨_,rfl⟩
   | some p =>
    rw [hc] at h2; rw [h2.1]
    simp only [aW,Bool.not_true,bX]
    rw [mD (by omega) hs k1]
    simp only [aW,Bool.not_true,bX,Yb]
    rw [show i+2+k+([58,93]:List UInt8).length=i+(k+4) by simp; omega]
 rw [mE hi h0]
 simp only [aW,bX,cond_false]
 have hE:=Ya (n:=n) (first:=first) (ends:=false) (by omega) hi hs
 cases h1:zQ first false (s.drop i) with
 | none =>
  rw [h1] at hE
  obtain ⟨a,hE⟩:=hE
  rw [hE]
  simp only [vI]
  exact ⟨_,rfl⟩
 | some x =>
  obtain ⟨a,k,may⟩:=x
  rw [h1] at hE
  simp only [uX] at hE
  rw [hE]
  have hk:=Ou h1
  rw [List.length_drop] at hk
  simp only [zNg]
  have hik:i+k <= s.length:=by omega
  have hR:cO n ((a.toNat:Int),(a.toNat:Int))=some (wd (bP a.toNat a.toNat)):=xX hn a.toNat_lt a.toNat_lt
  rw [jQ hik,hR,List.drop_drop]
  simp only [aW]
  cases h2:[45].isPrefixOf (s.drop (i+k))
  ·simp only [Bool.not_false,eU,Bool.false_and,cond_false]; rfl
  simp only [Bool.not_true,bX,Bool.true_and]
  rw [jQ hik]
  simp only [aW]
  cases h3:[45,93].isPrefixOf (s.drop (i+k))
  case true=>simp only [eU,Bool.not_true,Bool.false_and,cond_false]; rfl
  simp only [bX,Bool.not_false,Bool.true_and]
  have hp:=mI h2
  rw [List.length_drop] at hp ⊢
  simp only [List.length_cons,List.length_nil] at hp
  rw [dY (by omega) (by omega)]
  by_cases h4:1 < s.length - (i+k)
  ·rw [aJ (by simp; omega),decide_eq_true h4]
   simp only [cond_true]
   have hE2:=Ya (n:=n) (first:=false) (ends:=true) (s:=s) (i:=i+k+1) (by omega) (by omega) hs
   rw [show ((i+k:Nat):Int)+1=((i+k+1:Nat):Int) from rfl]
   rw [List.drop_drop,show i+(k+1)=i+k+1 by omega]
   cases h5:zQ false true (s.drop (i+k+1)) with
   | none =>
    rw [h5] at hE2
    obtain ⟨a,hE2⟩:=hE2
    rw [hE2]
    simp only [vI]
    exact ⟨_,rfl⟩
   | some y =>
    obtain ⟨b,m,is⟩:=y
    rw [h5] at hE2
    simp only [uX] at hE2
    rw [hE2]
    simp only [zNg,qV,vI]
    cases may
    ·simp only [Bool.not_false,eU,Bool.false_and,cond_false]; exact ⟨_,rfl⟩
    cases is
    ·simp only [Bool.not_false,eU,Bool.not_true,bX,Bool.and_false,Bool.false_and,cond_false]; exact ⟨_,rfl⟩
    have hR2:cO n ((a.toNat:Int),(b.toNat:Int))=some (wd (bP a.toNat b.toNat)):=xX hn a.toNat_lt b.toNat_lt
    rw [hR2,show decide ((b.toNat:Int) < (a.toNat:Int))=decide (b.toNat < a.toNat) by simp]
    cases decide (b.toNat < a.toNat)
    ·simp only [Bool.not_false,Bool.not_true,bX,Bool.and_true,cond_true,aW,Yb]
     rw [show i+(k+1+m)=i+k+1+m by omega]
    ·simp only [Bool.not_true,bX,eU,Bool.and_false,cond_false]; exact ⟨_,rfl⟩
  ·rw [aO (by simp; omega),decide_eq_false h4]
   rfl
def zA:Nat->Bool->(Nat->Bool)->List UInt8->Option ((Nat->Bool) × Nat)
 | 0,_,_,_=>none
 | f+1,first,q,r =>
  bif [93].isPrefixOf r && !first then some (q,1)
  else match Ey first r with
   | none=>none
   | some (p,k)=>match zA f false (fun j=>q j || p j) (r.drop k) with
    | none=>none
    | some (x,m)=>some (x,k+m)
def kV (p:Nat->Bool):Bool:=(List.range 256).all fun i=>!p i
def Ke (s:List UInt8):Option ((Nat->Bool) × Nat) :=
 bif [91].isPrefixOf s then
  let no:=[94].isPrefixOf (s.drop 1)
  let i:=bif no then 2 else 1
  match zA (s.length+1) true (fun _=>false) (s.drop i) with
  | none=>none
  | some (p,k) =>
   let p':=bif no then (fun j=>!p j) else p
   bif kV p' then none else some (p',i+k)
 else none
theorem zGv:∀ {f:Nat} {first:Bool} {q:Nat->Bool} {r:List UInt8} {p:Nat->Bool} {k:Nat},zA f first q r=some (p,k)->1 <= k∧k <= r.length
 | 0,_,_,_,_,_,h=>absurd h (by simp [zA])
 | f+1,first,q,r,p,k,h=>by
  unfold zA at h
  cases h0:[93].isPrefixOf r && !first <;> simp only [h0,cond_true,cond_false] at h
  ·cases h1:Ey first r with
   | none=>rw [h1] at h; exact absurd h (by simp)
   | some x =>
    obtain ⟨p1,k1⟩:=x
    rw [h1] at h
    simp only at h
    have hk1:=zBt h1
    cases h2:zA f false (fun j=>q j || p1 j) (r.drop k1) with
    | none=>rw [h2] at h; exact absurd h (by simp)
    | some y =>
     obtain ⟨p2,k2⟩:=y
     rw [h2] at h
     have hk2:=zGv h2
     rw [List.length_drop] at hk2
     simp only [aA,aB] at h; omega
  ·simp only [aD] at h0
   have:=mI h0.1
   simp only [List.length_cons,List.length_nil,aA,aB] at this h; omega
theorem zGw {s:List UInt8} {p:Nat->Bool} {k:Nat} (h:Ke s=some (p,k)):1 <= k∧k <= s.length:=by
 unfold Ke at h
 cases h0:[91].isPrefixOf s <;> simp only [h0,cond_true,cond_false] at h
 ·exact absurd h (by simp)
 ·cases h1:zA (s.length+1) true (fun _=>false) (s.drop (bif [94].isPrefixOf (s.drop 1) then 2 else 1)) with
  | none=>rw [h1] at h; exact absurd h (by simp)
  | some x =>
   obtain ⟨q,j⟩:=x
   rw [h1] at h
   have hj:=zGv h1
   rw [List.length_drop] at hj
   simp only at h
   cases h2:kV (bif [94].isPrefixOf (s.drop 1) then (fun j=>!q j) else q) <;> simp only [h2,cond_true,cond_false] at h
   ·simp only [aA,aB] at h; omega
   ·exact absurd h (by simp)
theorem sK {p:Nat->Bool}:Ty.beq (.arr 4 (.int .u64)) (wd p) [0,0,0,0]=kV p:=by
 rw [Bool.eq_iff_iff,<- nM,yBn,nM,zYc,kV,List.all_eq_true]
 simp
def Ow (s:List UInt8) (i:Nat) (no:Bool) (o:Option ((Nat->Bool) × Nat)) (e:Option (Sum (List Int × List UInt8 × Int × Unit) (Int × Int × List Int × List UInt8 × Int × Unit))):Prop:=match o with
 | some (p,k)=>bif kV (bif no then (fun j=>!p j) else p) then ∃ a w,e=some (.inr (42,0,w,s,a,())) else e=some (.inl (wd (bif no then (fun j=>!p j) else p),s,((i+k:Nat):Int),()))
 | none=>∃ a w,e=some (.inr (42,0,w,s,a,()))
theorem zSv {n:Nat} {s:List UInt8} {no:Bool} (hn:300 <= n) (hs:s.length < 1000000):∀ (f:Nat) (i m:Nat) (first:Bool) (q:Nat->Bool),i <= s.length->s.length - i < f->f <= m ->
  Ow s i no (zA f first q (s.drop i)) (fix (jW n) m (no,first,wd q,s,(i:Int),())):=by
 intro f
 induction f with
 | zero=>intro i m first q _ h; omega
 | succ f ih =>
  intro i m first q hi hf hm
  rw [fK (by omega),jW]
  simp only
  have hO:∀ p:Nat->Bool,mQ n [wd q,wd p]=some (wd fun j=>q j || p j):=by
   intro p
   have:=zBr (n:=n) [q,p] (by omega) (by simp; omega) (by simp)
   simpa using this
  have hpart:Ow s i no (match Ey first (s.drop i) with
   | none=>none
   | some (p,k)=>match zA f false (fun j=>q j || p j) ((s.drop i).drop k) with
    | none=>none
    | some (x,m)=>some (x,k+m)) (ob2 (lH n (first,s,(i:Int),())) (fun y13 =>
   ob (mQ n [wd q,y13.1]) fun y14 =>
   fix (jW n) (m - 1) (no,false,y14,y13.2.1,y13.2.2.1,())) (fun y13 =>
   some (.inr (y13.1,y13.2.1,wd q,y13.2.2.1,y13.2.2.2.1,())))):=by
   have hp:=zVt (n:=n) (first:=first) hn hi hs
   cases h1:Ey first (s.drop i) with
   | none =>
    rw [h1] at hp
    obtain ⟨a,hp⟩:=hp
    rw [hp]
    exact ⟨_,_,rfl⟩
   | some x =>
    obtain ⟨p,k⟩:=x
    rw [h1] at hp
    simp only [Yb] at hp
    have hk:=zBt h1
    rw [List.length_drop] at hk
    rw [hp]
    simp only [zNg]
    rw [hO p]
    simp only [aW]
    have:=ih (i+k) (m - 1) false (fun j=>q j || p j) (by omega) (by omega) (by omega)
    rw [List.drop_drop]
    cases h2:zA f false (fun j=>q j || p j) (s.drop (i+k)) with
    | none=>rw [h2] at this; exact this
    | some y =>
     obtain ⟨p2,k2⟩:=y
     rw [h2] at this
     simp only [Ow] at this ⊢
     rw [show i+(k+k2)=i+k+k2 by omega]
     exact this
  unfold zA
  cases first
  case true =>
   simp only [eU,Bool.not_true,Bool.and_false,cond_false]
   exact hpart
  simp only [bX,Bool.not_false,Bool.and_true]
  cases h0:[93].isPrefixOf (s.drop i)
  ·rw [mE hi h0]
   simp only [aW,Bool.not_false,eU,cond_false]
   exact hpart
  ·rw [mD hi hs h0]
   simp only [aW,Bool.not_true,bX,cond_true,Ow]
   cases no
   ·simp only [bX,cond_false]
    cases hq:kV q
    ·simp only [cond_false]
     rw [aJ (by exact sK.trans hq)]; rfl
    ·simp only [cond_true]
     refine ⟨((i+[93].length:Nat):Int),wd q,?_⟩
     rw [aO (by exact sK.trans hq)]; rfl
   ·simp only [eU,cond_true,Xy (n:=n) (by omega),aW]
    cases hq:kV (fun j=>!q j)
    ·simp only [cond_false]
     rw [aJ (by exact sK.trans hq)]; rfl
    ·simp only [cond_true]
     refine ⟨((i+[93].length:Nat):Int),wd (fun j=>!q j),?_⟩
     rw [aO (by exact sK.trans hq)]; rfl
def zSw:Option ((Nat->Bool) × Nat)->List Int × Int × Int
 | some (p,k)=>(wd p,((k:Nat):Int),0)
 | none=>([0,0,0,0],0,42)
theorem Zy {n:Nat} {s:List UInt8} (hn:400 <= n) (hsn:s.length+10 < n) (hs:s.length < 1000000):oJ n s=some (zSw (Ke s)):=by
 have hT:∀ e:Option (Sum (List Int × List UInt8 × Int × Unit) (Int × Int × List Int × List UInt8 × Int × Unit)),jP n ([0,0,0,0],s,0,())=e->oJ n s=ob (ob2 e (fun y=>some (0,0,y)) (fun y=>some y)) fun y1=>br (y1.1 != 0) (some ([0,0,0,0],0,y1.1)) (some (y1.2.2.1,y1.2.2.2.2.1,0)):=by
  intro e he
  unfold oJ fE
  simp only
  rw [he]
 have hB:∀ a w,jP n ([0,0,0,0],s,0,())=some (.inr (42,0,w,s,a,()))->oJ n s=some ([0,0,0,0],0,42):=by
  intro a w h; rw [hT _ h]; rfl
 have h0:jP n ([0,0,0,0],s,0,())=br (![91].isPrefixOf s) (some (.inr (42,0,[0,0,0,0],s,0,()))) (fix (jW n) n ([94].isPrefixOf (s.drop 1),true,wd (fun _=>false),s,((bif [94].isPrefixOf (s.drop 1) then 2 else 1:Nat):Int),())):=by
  unfold jP
  simp only
  rw [show (0:Int)=((0:Nat):Int) from rfl]
  cases h1:[91].isPrefixOf s
  ·rw [mE (by omega) (by rw [List.drop_zero]; exact h1)]; rfl
  ·rw [mD (by omega) hs (by rw [List.drop_zero]; exact h1)]
   have hl:=mI h1
   simp only [List.length_cons,List.length_nil] at hl
   simp only [aW,Bool.not_true,bX]
   rw [show 0+([91]:List UInt8).length=1 from rfl]
   cases h2:[94].isPrefixOf (s.drop 1)
   ·rw [mE (by omega) h2,nM]; rfl
   ·rw [mD (by omega) hs h2,nM]; rfl
 unfold Ke
 cases h1:[91].isPrefixOf s
 ·rw [h1] at h0; simp only [Bool.not_false,eU] at h0
  rw [hB _ _ h0]; rfl
 ·rw [h1] at h0; simp only [Bool.not_true,bX] at h0
  simp only [cond_true]
  have hi:(bif [94].isPrefixOf (s.drop 1) then 2 else 1) <= s.length:=by
   have hl:=mI h1
   simp only [List.length_cons,List.length_nil] at hl
   cases h2:[94].isPrefixOf (s.drop 1)
   ·simp only [cond_false]; omega
   ·have hl2:=mI h2
    rw [List.length_drop] at hl2
    simp only [List.length_cons,List.length_nil] at hl2
    simp only [cond_true]; omega
  have hL:=zSv (n:=n) (s:=s) (no:=[94].isPrefixOf (s.drop 1)) (by omega) hs (s.length+1) _ n true (fun _=>false) hi (by omega) (by omega)
  rw [<- h0] at hL
  cases h3:zA (s.length+1) true (fun _=>false) (s.drop (bif [94].isPrefixOf (s.drop 1) then 2 else 1)) with
  | none =>
   rw [h3] at hL
   obtain ⟨a,w,hL⟩:=hL
   rw [hB _ _ hL]; rfl
  | some x =>
   obtain ⟨p,k⟩:=x
   rw [h3] at hL
   simp only [Ow] at hL
   simp only
   cases h4:kV (bif [94].isPrefixOf (s.drop 1) then (fun j=>!p j) else p) <;> rw [h4] at hL <;> simp only [cond_true,cond_false] at hL ⊢
   ·rw [hT _ hL]; rfl
   ·obtain ⟨a,w,hL⟩:=hL
    rw [hB _ _ hL]; rfl
end Go.Dec
