/- Part of a proof over this seat: a library of my own, and what it says of this seat. No statement is proved here. -/
import Derived.Test.YthhbdkdofhhoeaaGreatDoorPartBG
namespace Go.Dec
theorem Tq {n:Nat}{r t:List UInt8}:strings_HasPrefix n (r,t)=some (t.isPrefixOf r):=by
 unfold strings_HasPrefix iH;simp only;by_cases h:t.length<=r.length
 ·rw [aN (by simp;omega),aC (by simp;omega)];simp only [aP,Int.toNat_natCast];congr 1;rw [Bool.eq_iff_iff,List.isPrefixOf_iff_prefix,List.prefix_iff_eq_take,beq_iff_eq];exact eq_comm
 ·rw [aF (by simp;omega)];simp only [aP];congr 1
  symm
  rw [Bool.eq_false_iff,ne_eq,List.isPrefixOf_iff_prefix];intro hp;have:=hp.length_le;omega
theorem kU {n:Nat}{s t:List UInt8}{i:Nat}(hi:i<=s.length):fA n (t,s,(i:Int),())=some (t.isPrefixOf (s.drop i),s,(i:Int),()):=by
 unfold fA;simp only;rw [aC (by simp;omega),Tq];rfl
theorem oF {r t:List UInt8}(h:t.isPrefixOf r=true):t.length<=r.length:=by
 rw [List.isPrefixOf_iff_prefix] at h;exact h.length_le
theorem nV {n:Nat}{s t:List UInt8}{i:Nat}(hi:i<=s.length) (hs:s.length<1000000) (h:t.isPrefixOf (s.drop i)=true):dZ n (t,s,(i:Int),())=some (true,s,((i+t.length:Nat):Int),()):=by
 have hl:=oF h;rw [List.length_drop] at hl;unfold dZ;simp only;rw [kU hi];simp only [aP,h,Bool.not_true,bU];rw [dJ (by omega) (by omega)];rfl
theorem nW {n:Nat}{s t:List UInt8}{i:Nat}(hi:i<=s.length) (h:t.isPrefixOf (s.drop i)=false):dZ n (t,s,(i:Int),())=some (false,s,(i:Int),()):=by
 unfold dZ;simp only;rw [kU hi];simp only [aP,h,Bool.not_false,eZ]
theorem eqI {c:UInt8}(k:UInt8):((c.toNat:Int)==(k.toNat:Int))=(k==c):=by
 rw [Bool.eq_iff_iff,beq_iff_eq,beq_iff_eq,Int.ofNat_inj,UInt8.toNat_inj];exact eq_comm
theorem Oj {s:List UInt8}{i j:Nat}{d c:UInt8}(h:(s.drop i)[j]?=some c):bJ d s ((i+j:Nat):Int)=c:=by
 rw [List.getElem?_drop] at h;unfold bJ;rw [Int.toNat_natCast,List.getD_eq_getElem?_getD,h];rfl
theorem Dv {s t:List UInt8}{i:Nat}{a:UInt8}(h:s.drop i=a::t):s.drop (i+1)=t∧i<s.length:=by
 refine ⟨?_,?_⟩
 ·rw [<- List.drop_drop,h];rfl
 ·have:=congrArg List.length h;rw [List.length_drop,List.length_cons] at this;omega
theorem Kc {r:List UInt8}{a b:UInt8}(h:[a,b].isPrefixOf r=true):∃ t,r=a::b::t:=by
 rw [List.isPrefixOf_iff_prefix] at h;obtain ⟨t,rfl⟩:=h;exact ⟨t,rfl⟩
theorem yFo {r:List UInt8}{a:UInt8}(h:[a].isPrefixOf r=true):∃ t,r=a::t:=by
 rw [List.isPrefixOf_iff_prefix] at h;obtain ⟨t,rfl⟩:=h;exact ⟨t,rfl⟩
def xQ (x:UInt8) (b:Bool):List UInt8->Option (UInt8×Nat×Bool) | _ :: _ :: c :: t=>bif [x,93].isPrefixOf t then some (c,5,b) else none | _=>none
def qZ (first ends:Bool) (r:List UInt8):Option (UInt8 × Nat × Bool) :=
 bif [91,46].isPrefixOf r then xQ 46 true r
 else bif [91,61].isPrefixOf r then xQ 61 false r
 else bif [92,110].isPrefixOf r then some (10,2,true)
 else bif [91,58].isPrefixOf r then none
 else bif [93].isPrefixOf r&&!first then none
 else bif [45].isPrefixOf r&&!first&&!ends&&!([45,93].isPrefixOf r) then none
 else match r with|[]=>none|c::_=>some (c,1,true)
theorem zVu {x:UInt8}{b:Bool}{c:UInt8}{k:Nat}{m:Bool}:∀ {r:List UInt8},xQ x b r=some (c,k,m)->1<=k∧k<=r.length
 | [],h=>absurd h (by simp [xQ])
 | [_],h=>absurd h (by simp [xQ])
 | [_,_],h=>absurd h (by simp [xQ])
 | _::_::d::t,h=>by
  unfold xQ at h;cases hp:[x,93].isPrefixOf t<;>simp only [hp,cond_true,cond_false] at h
  ·exact absurd h (by simp)
  ·have:=oF hp;simp only [List.length_cons,List.length_nil,aA,aB] at this h ⊢;omega
theorem Tt {first ends:Bool}{r:List UInt8}{c:UInt8}{k:Nat}{m:Bool}(h:qZ first ends r=some (c,k,m)):1<=k∧k<=r.length:=by
 have mk:∀ {x:UInt8}{b:Bool},xQ x b r=some (c,k,m)->1<=k∧k<=r.length:=fun h=>zVu h
 unfold qZ at h;cases h1:[91,46].isPrefixOf r<;>simp only [h1,cond_true,cond_false] at h
 ·cases h2:[91,61].isPrefixOf r<;>simp only [h2,cond_true,cond_false] at h
  ·cases h3:[92,110].isPrefixOf r<;>simp only [h3,cond_true,cond_false] at h
   ·cases h4:[91,58].isPrefixOf r<;>simp only [h4,cond_true,cond_false] at h
    ·cases h5:[93].isPrefixOf r&&!first<;>simp only [h5,cond_true,cond_false] at h
     ·cases h6:[45].isPrefixOf r&&!first&&!ends&&!([45,93].isPrefixOf r)<;>simp only [h6,cond_true,cond_false] at h
      ·split at h
       ·exact absurd h (by simp)
       ·simp only [aA,aB,List.length_cons] at h ⊢;omega
      ·exact absurd h (by simp)
     ·exact absurd h (by simp)
    ·exact absurd h (by simp)
   ·have:=oF h3;simp only [List.length_cons,List.length_nil,aA,aB] at this h;omega
  ·exact mk h
 ·exact mk h
def xC (s:List UInt8) (i:Nat) (o:Option (UInt8 × Nat × Bool)) (e:Option (Sum (Int × Bool × List UInt8 × Int × Unit) (Int × Int × List UInt8 × Int × Unit))):Prop:=match o with
 | some (c,k,m)=>e=some (.inl ((c.toNat:Int),m,s,((i+k:Nat):Int),()))
 | none=>∃ a,e=some (.inr (42,0,s,a,()))
theorem tK {n:Nat}{x:List UInt8 × Int × Unit}:bL n x=some (.inr (42,0,x)):=rfl
theorem Xd {n : Nat} {s : List UInt8} {i : Nat} {mk : UInt8} {t : List UInt8} (hi : i <= s.length) (hs : s.length < 1000000) (hr : s.drop i = 91 :: mk :: t) :
    xC s i (xQ mk ([mk] == [46]) (s.drop i))
      (br ((s.length : Int) == ((i + 2 : Nat) : Int)) (ob2 (bL n (s, ((i + 2 : Nat) : Int), ())) (fun y17 => none) (fun y17 => some (.inr (y17.1, y17.2.1, y17.2.2.1, y17.2.2.2.1, ()))))
        (chk ((decide (0 <= IntKind.wrap .i64 (((i + 2 : Nat) : Int) + 1)) && decide (IntKind.wrap .i64 (((i + 2 : Nat) : Int) + 1) <= (s.length : Int)))) (
                chk (decide (([mk] : List UInt8).length + ([93] : List UInt8).length <= aH)) (
                  ob (strings_HasPrefix n (s.drop (IntKind.wrap .i64 (((i + 2 : Nat) : Int) + 1)).toNat, [mk] ++ [93])) fun y19 =>
                  br (!y19) (
                    ob2 (bL n (s, ((i + 2 : Nat) : Int), ())) (fun y20 =>
                      none) (fun y20 =>
                      some (.inr (y20.1, y20.2.1, y20.2.2.1, y20.2.2.2.1, ())))) (
                    jn (qP n) ([mk], s, ((i + 2 : Nat) : Int), ())))))) := by
  obtain ⟨h1, h1'⟩ := Dv hr;obtain ⟨h2, h2'⟩ := Dv h1;have hlen : s.length = i + 2 + t.length := by
    have := congrArg List.length hr;simp only [List.length_drop, List.length_cons] at this; omega
  rw [hr];cases t with
  | nil =>
    simp only [List.length_nil] at hlen;rw [aN (by simp; omega), tK];simp only [xP, xC, xQ];exact ⟨_, rfl⟩
  | cons c t =>
    simp only [List.length_cons] at hlen;obtain ⟨h3, h3'⟩ := Dv h2;rw [aF (by simp; omega)];have hw : IntKind.wrap .i64 (((i + 2 : Nat) : Int) + 1) = ((i + 1 + 1 + 1 : Nat) : Int) := by rw [dJ (by omega) (by omega)]; omega
    rw [hw, aC (by simp; omega), aC (by simp [aH]), Int.toNat_natCast, h3, Tq];simp only [aP, List.cons_append, List.nil_append];cases hp : [mk, 93].isPrefixOf t
    · simp only [Bool.not_false, eZ, tK, xP, cond_false, xC, xQ, hp];exact ⟨_, rfl⟩
    · simp only [Bool.not_true, bU, cond_true, xC, zSy, qP, xQ, hp];have := oF hp;simp only [List.length_cons, List.length_nil] at this;rw [aC (mK (by omega)), dJ (by omega) (by omega), show ((i + 2 : Nat) : Int) = ((i + 2 : Nat) : Int) from rfl, Oj (c := c) (by rw [hr]; rfl)];rfl
theorem zCa {n : Nat} {s : List UInt8} {i : Nat} {first ends : Bool} (hn : 3 <= n) (hi : i <= s.length) (hs : s.length < 1000000) : xC s i (qZ first ends (s.drop i)) (lM n (first, ends, s, (i : Int), ())) := by
  obtain ⟨m, rfl⟩ : ∃ m, n = m + 3 := ⟨n - 3, by omega⟩;have hlen : (s.drop i).length = s.length - i := List.length_drop;have hin : ∀ {t : List UInt8}, t.isPrefixOf (s.drop i) = true -> i + t.length <= s.length := fun h => by have := oF h; omega
  unfold lM qZ;simp only;rw [Yk, lW];simp only;rw [aN (by rfl), aC (by rfl), aC (by rfl), aC (by rfl)];rw [show [91] ++ List.getD [[46], [61]] (0 + Int.toNat 0) (Ty.dflt .str) = ([91, 46] : List UInt8) from rfl, show List.getD [[46], [61]] (0 + Int.toNat 0) (Ty.dflt .str) = ([46] : List UInt8) from rfl];cases h1 : [91, 46].isPrefixOf (s.drop i)
  case true =>
    obtain ⟨t, ht⟩ := Kc h1;rw [nV hi hs h1];simp only [aP, Bool.not_true, bU, cond_true];exact Xd hi hs ht
  rw [nW hi h1];simp only [aP, Bool.not_false, eZ, cond_false];rw [show IntKind.wrap .i64 (0 + 1) = 1 from rfl, Yk, lW];simp only;rw [aN (by rfl), aC (by rfl), aC (by rfl), aC (by rfl)];rw [show [91] ++ List.getD [[46], [61]] (0 + Int.toNat 1) (Ty.dflt .str) = ([91, 61] : List UInt8) from rfl, show List.getD [[46], [61]] (0 + Int.toNat 1) (Ty.dflt .str) = ([61] : List UInt8) from rfl];cases h2 : [91, 61].isPrefixOf (s.drop i)
  case true =>
    obtain ⟨t, ht⟩ := Kc h2;rw [nV hi hs h2];simp only [aP, Bool.not_true, bU, cond_true];exact Xd hi hs ht
  rw [nW hi h2];simp only [aP, Bool.not_false, eZ, cond_false];rw [show IntKind.wrap .i64 (1 + 1) = 2 from rfl, Yk, lW];simp only;rw [aF (by rfl)];cases h3 : [92, 110].isPrefixOf (s.drop i)
  case true =>
    rw [nV hi hs h3];simp only [aP, eZ, cond_true, xC];rfl
  rw [nW hi h3];have yHl : ∀ {c : UInt8} {t : List UInt8}, s.drop i = c :: t -> jJ (m + 3) (s, (i : Int), ()) = some (.inl ((c.toNat : Int), true, s, ((i + 1 : Nat) : Int), ())) := by
    intro c t hr;obtain ⟨_, h⟩ := Dv hr;unfold jJ;simp only;have e : IntKind.wrap .i64 (IntKind.wrap .i64 ((i : Int) + 1) - 1) = ((i + 0 : Nat) : Int) := by
      rw [dJ (x := (i : Int) + 1) (by omega) (by omega), dJ (by omega) (by omega)]; omega
    rw [e, aC (mK (by omega)), Oj (c := c) (by rw [hr]; rfl), dJ (by omega) (by omega)]; rfl
  have zIc : ∀ bare : Bool, xC s i (bif [91, 58].isPrefixOf (s.drop i) then none
      else bif [93].isPrefixOf (s.drop i) && !first then none
      else bif bare then none
      else match s.drop i with | [] => none | c :: _ => some (c, 1, true)) (iD (m + 3) (first, bare, s, (i : Int), ())) := by
    intro bare;unfold iD;simp only;cases hr : s.drop i with
    | nil =>
      rw [hr] at hlen;simp only [List.length_nil] at hlen;rw [aN (by simp; omega), tK];simp only [xP];cases first <;> cases bare <;> exact ⟨_, rfl⟩
    | cons c t =>
      obtain ⟨_, hlt⟩ := Dv hr;rw [aF (by simp; omega), kU hi];simp only [aP];rw [<- hr];cases h4 : [91, 58].isPrefixOf (s.drop i)
      case true =>
        simp only [eZ, tK, xP, cond_true];exact ⟨_, rfl⟩
      simp only [bU, cond_false];rw [kU hi];simp only [aP];have hb : xC s i (bif bare then none else some (c, 1, true)) (br bare (
            ob2 (bL (m + 3) (s, (i : Int), ())) (fun y40 => none) (fun y40 => some (.inr (y40.1, y40.2.1, y40.2.2.1, y40.2.2.2.1, ())))) (
            jn (jJ (m + 3)) (s, (i : Int), ()))) := by
        cases bare
        · simp only [bU, cond_false, zSy];rw [yHl hr]; rfl
        · simp only [eZ, cond_true, tK, xP];exact ⟨_, rfl⟩
      cases h5 : [93].isPrefixOf (s.drop i)
      · simp only [bU, Bool.false_and, cond_false];exact hb
      · cases first
        · simp only [eZ, Bool.not_false, Bool.true_and, cond_true, tK, xP];exact ⟨_, rfl⟩
        · simp only [eZ, bU, Bool.not_true, Bool.and_false, cond_false];exact hb
  simp only [aP, bU, cond_false];rw [kU hi];simp only [aP];cases h6 : [45].isPrefixOf (s.drop i)
  · simp only [bU, Bool.false_and];exact zIc false
  simp only [eZ, Bool.true_and];cases first
  · simp only [Bool.not_false, eZ, Bool.true_and];cases ends
    · simp only [Bool.not_false, eZ, Bool.true_and];rw [kU hi];simp only [aP];exact zIc _
    · simp only [Bool.not_true, bU, Bool.false_and];exact zIc false
  · simp only [Bool.not_true, bU, Bool.false_and];exact zIc false
theorem yJf (a b:UInt8):(a==b)=(b==a):=by rw [Bool.eq_iff_iff,beq_iff_eq,beq_iff_eq];exact eq_comm
def Ca:List UInt8->Option Nat | []=>none | c :: r=>bif [58,93].isPrefixOf (c :: r) then some 0 else (Ca r).map (·+1)
theorem Tv:∀ {r:List UInt8}{k:Nat},Ca r=some k->[58,93].isPrefixOf (r.drop k)=true∧k+2<=r.length
 | [],k,h=>absurd h (by simp [Ca])
 | c::r,k,h=>by
  unfold Ca at h;cases hp:[58,93].isPrefixOf (c::r)<;>simp only [hp,cond_true,cond_false] at h
  ·cases hk:Ca r with
   | none=>rw [hk] at h;exact absurd h (by simp)
   | some j =>
    rw [hk] at h;simp only [Option.map_some,aA] at h;subst h;obtain ⟨h1,h2⟩:=Tv hk;exact ⟨h1,by simp only [List.length_cons];omega⟩
  ·simp only [aA] at h;subst h;exact ⟨hp,by have:=oF hp;simpa using this⟩
theorem zGa:∀ r:List UInt8,Go.Lib.index r [58,93]=match Ca r with|some k=>((k:Nat):Int)|none=>-1
 | []=>by rfl
 | c::r=>by
  have ih:=zGa r;rw [Go.Lib.index,Ca];cases hp:[58,93].isPrefixOf (c::r)
  ·simp only [Bool.false_eq_true,if_false,cond_false];rw [ih];cases Ca r with
   | none=>rfl
   | some k =>
    simp only [Option.map_some];rw [if_neg (by simp)];rfl
  ·rfl
theorem yCv (r:List UInt8):Go.Lib.cut r [58,93]=match Ca r with|some k=>(r.take k,r.drop (k+2),true)|none=>(r,[],false):=by
 unfold Go.Lib.cut;rw [zGa];cases Ca r with
 | none=>rfl
 | some k=>simp
def rA (first:Bool) (r:List UInt8):Option ((Nat->Bool) × Nat) :=
 bif [91,58].isPrefixOf r then
  match Ca (r.drop 2) with
  | none=>none
  | some k=>match Mh ((r.drop 2).take k) with
   | some p=>some (p,k+4)
   | none=>none
 else match qZ first false r with
  | none=>none
  | some (a,k,may) =>
   bif [45].isPrefixOf (r.drop k)&&!([45,93].isPrefixOf (r.drop k))&&decide (1<(r.drop k).length) then
    match qZ false true (r.drop (k+1)) with
    | none=>none
    | some (b,m,is)=>bif may&&is&&!(decide (b.toNat<a.toNat)) then some (bA a.toNat b.toNat,k+1+m) else none
   else some (bA a.toNat a.toNat,k)
theorem Tw {first:Bool}{r:List UInt8}{p:Nat->Bool}{k:Nat}(h:rA first r=some (p,k)):1<=k∧k<=r.length:=by
 unfold rA at h;cases h0:[91,58].isPrefixOf r<;>simp only [h0,cond_true,cond_false] at h
 ·cases h1:qZ first false r with
  | none=>rw [h1] at h;exact absurd h (by simp)
  | some x =>
   obtain ⟨a,j,may⟩:=x;have hl:=Tt h1;rw [h1] at h;simp only at h;cases h2:[45].isPrefixOf (r.drop j)&&!([45,93].isPrefixOf (r.drop j))&&decide (1<(r.drop j).length)<;>simp only [h2,cond_true,cond_false] at h
   ·simp only [aA,aB] at h;omega
   ·cases h3:qZ false true (r.drop (j+1)) with
    | none=>rw [h3] at h;exact absurd h (by simp)
    | some y =>
     obtain ⟨b,m,is⟩:=y;have hl3:=Tt h3;rw [h3] at h;simp only at h;rw [List.length_drop] at hl3;cases h4:may&&is&&!(decide (b.toNat<a.toNat))<;>simp only [h4,cond_true,cond_false] at h
     ·exact absurd h (by simp)
     ·simp only [aA,aB] at h;omega
 ·cases h1:Ca (r.drop 2) with
  | none=>rw [h1] at h;exact absurd h (by simp)
  | some j =>
   rw [h1] at h;simp only at h;have:=(Tv h1).2;rw [List.length_drop] at this;cases h2:Mh ((r.drop 2).take j) with
   | none=>rw [h2] at h;exact absurd h (by simp)
   | some q =>
    rw [h2] at h;simp only [aA,aB] at h;omega
def zCb (s:List UInt8) (i:Nat) (o:Option ((Nat->Bool) × Nat)) (e:Option (Sum (List Int × List UInt8 × Int × Unit) (Int × Int × List UInt8 × Int × Unit))):Prop:=match o with
 | some (p,k)=>e=some (.inl (wd p,s,((i+k:Nat):Int),()))
 | none=>∃ a,e=some (.inr (42,0,s,a,()))
theorem yCw {n:Nat}{s:List UInt8}{i:Nat}{first:Bool}(hn:300<=n) (hi:i<=s.length) (hs:s.length<1000000):zCb s i (rA first (s.drop i)) (mZ n (first,s,(i:Int),())):=by
 unfold mZ rA;simp only;cases h0:[91,58].isPrefixOf (s.drop i)
 case true =>
  have hl:=oF h0;simp only [List.length_drop,List.length_cons,List.length_nil] at hl;rw [nV hi hs h0];simp only [aP,eZ,cond_true];rw [aC (by simp;omega),Int.toNat_natCast,strings_Cut,aC (by simp;omega),show ([91,58]:List UInt8).length=2 from rfl];simp only [aP];rw [yCv,List.drop_drop];have hC:=zTb (n:=n) hn;cases h1:Ca (s.drop (i+2)) with
  | none =>
   simp only;have h2:=hC (s.drop (i+2));have yBi:∀ (w:Bool),∀ (x:List Int),∃ a,(ob (ρ:=Sum (List Int × List UInt8 × Int × Unit) (Int × Int × List UInt8 × Int × Unit)) (some (x,w)) fun y8 =>
    br (!y8.2) (
    ob2 (bL n (s,IntKind.wrap .i64 (((i+2:Nat):Int)+((s.drop (i+2)).length:Int)),())) (fun y9 =>
     none) (fun y9 =>
     some (.inr (y9.1,y9.2.1,y9.2.2.1,y9.2.2.2.1,())))) (
    ob (dZ n ([58,93],s,IntKind.wrap .i64 (((i+2:Nat):Int)+((s.drop (i+2)).length:Int)),())) fun y10 =>
    br (!y10.1) (
     ob2 (bL n (y10.2.1,y10.2.2.1,())) (fun y11 =>
      none) (fun y11 =>
      some (.inr (y11.1,y11.2.1,y11.2.2.1,y11.2.2.2.1,())))) (
     some (.inl (y8.1,y10.2.1,y10.2.2.1,())))))=some (.inr (42,0,s,a,())):=by
    intro w x;simp only [aP];cases w
    ·simp only [Bool.not_false,eZ,tK,xP];exact ⟨_,rfl⟩
    ·simp only [Bool.not_true,bU];have e:IntKind.wrap .i64 (((i+2:Nat):Int)+((s.drop (i+2)).length:Int))=((s.length:Nat):Int):=by
      rw [List.length_drop,dJ (by omega) (by omega)];omega
     rw [e,nW (aQ _) (by simp)];simp only [aP,Bool.not_false,eZ,tK,xP];exact ⟨_,rfl⟩
   cases hc:Mh (s.drop (i+2)) with
   | none=>rw [hc] at h2;rw [h2.1];exact yBi _ _
   | some p=>rw [hc] at h2;rw [h2.1];exact yBi _ _
  | some k =>
   simp only;obtain ⟨k1,k2⟩:=Tv h1;rw [List.length_drop] at k2;rw [List.drop_drop] at k1;have h2:=hC ((s.drop (i+2)).take k);have e:IntKind.wrap .i64 (((i+2:Nat):Int)+(((s.drop (i+2)).take k).length:Int))=((i+2+k:Nat):Int):=by
    rw [List.length_take,List.length_drop,dJ (by omega) (by omega)];omega
   rw [e];cases hc:Mh ((s.drop (i+2)).take k) with
   | none =>
    rw [hc] at h2;rw [h2.1];simp only [aP,Bool.not_false,eZ,tK,xP];exact ⟨_,rfl⟩
   | some p =>
    rw [hc] at h2;rw [h2.1];simp only [aP,Bool.not_true,bU];rw [nV (by omega) hs k1];simp only [aP,Bool.not_true,bU,zCb];rw [show i+2+k+([58,93]:List UInt8).length=i+(k+4) by simp;omega]
 rw [nW hi h0];simp only [aP,bU,cond_false];have hE:=zCa (n:=n) (first:=first) (ends:=false) (by omega) hi hs;cases h1:qZ first false (s.drop i) with
 | none =>
  rw [h1] at hE;obtain ⟨a,hE⟩:=hE;rw [hE];simp only [xP];exact ⟨_,rfl⟩
 | some x =>
  obtain ⟨a,k,may⟩:=x;rw [h1] at hE;simp only [xC] at hE;rw [hE];have hk:=Tt h1;rw [List.length_drop] at hk;simp only [zSx];have hik:i+k<=s.length:=by omega
  have hR:dL n ((a.toNat:Int),(a.toNat:Int))=some (wd (bA a.toNat a.toNat)):=Af hn a.toNat_lt a.toNat_lt;rw [kU hik,hR,List.drop_drop];simp only [aP];cases h2:[45].isPrefixOf (s.drop (i+k))
  ·simp only [Bool.not_false,eZ,Bool.false_and,cond_false];rfl
  simp only [Bool.not_true,bU,Bool.true_and];rw [kU hik];simp only [aP];cases h3:[45,93].isPrefixOf (s.drop (i+k))
  case true=>simp only [eZ,Bool.not_true,Bool.false_and,cond_false];rfl
  simp only [bU,Bool.not_false,Bool.true_and];have hp:=oF h2;rw [List.length_drop] at hp ⊢;simp only [List.length_cons,List.length_nil] at hp;rw [dJ (by omega) (by omega)];by_cases h4:1<s.length-(i+k)
  ·rw [aF (by simp;omega),decide_eq_true h4];simp only [cond_true];have hE2:=zCa (n:=n) (first:=false) (ends:=true) (s:=s) (i:=i+k+1) (by omega) (by omega) hs;rw [show ((i+k:Nat):Int)+1=((i+k+1:Nat):Int) from rfl];rw [List.drop_drop,show i+(k+1)=i+k+1 by omega];cases h5:qZ false true (s.drop (i+k+1)) with
   | none =>
    rw [h5] at hE2;obtain ⟨a,hE2⟩:=hE2;rw [hE2];simp only [xP];exact ⟨_,rfl⟩
   | some y =>
    obtain ⟨b,m,is⟩:=y;rw [h5] at hE2;simp only [xC] at hE2;rw [hE2];simp only [zSx,tK,xP];cases may
    ·simp only [Bool.not_false,eZ,Bool.false_and,cond_false];exact ⟨_,rfl⟩
    cases is
    ·simp only [Bool.not_false,eZ,Bool.not_true,bU,Bool.and_false,Bool.false_and,cond_false];exact ⟨_,rfl⟩
    have hR2:dL n ((a.toNat:Int),(b.toNat:Int))=some (wd (bA a.toNat b.toNat)):=Af hn a.toNat_lt b.toNat_lt;rw [hR2,show decide ((b.toNat:Int)<(a.toNat:Int))=decide (b.toNat<a.toNat) by simp];cases decide (b.toNat<a.toNat)
    ·simp only [Bool.not_false,Bool.not_true,bU,Bool.and_true,cond_true,aP,zCb];rw [show i+(k+1+m)=i+k+1+m by omega]
    ·simp only [Bool.not_true,bU,eZ,Bool.and_false,cond_false];exact ⟨_,rfl⟩
  ·rw [aN (by simp;omega),decide_eq_false h4];rfl
def yB:Nat->Bool->(Nat->Bool)->List UInt8->Option ((Nat->Bool) × Nat)
 | 0,_,_,_=>none
 | f+1,first,q,r =>
  bif [93].isPrefixOf r&&!first then some (q,1)
  else match rA first r with
   | none=>none
   | some (p,k)=>match yB f false (fun j=>q j||p j) (r.drop k) with
    | none=>none
    | some (x,m)=>some (x,k+m)
def gZ (p:Nat->Bool):Bool:=(List.range 256).all fun i=>!p i
def wO (s:List UInt8):Option ((Nat->Bool) × Nat) :=
 bif [91].isPrefixOf s then
  let no:=[94].isPrefixOf (s.drop 1)
  let i:=bif no then 2 else 1
  match yB (s.length+1) true (fun _=>false) (s.drop i) with
  | none=>none
  | some (p,k) =>
   let p':=bif no then (fun j=>!p j) else p
   bif gZ p' then none else some (p',i+k)
 else none
theorem zLg:∀ {f:Nat}{first:Bool}{q:Nat->Bool}{r:List UInt8}{p:Nat->Bool}{k:Nat},yB f first q r=some (p,k)->1<=k∧k<=r.length
 | 0,_,_,_,_,_,h=>absurd h (by simp [yB])
 | f+1,first,q,r,p,k,h=>by
  unfold yB at h;cases h0:[93].isPrefixOf r&&!first<;>simp only [h0,cond_true,cond_false] at h
  ·cases h1:rA first r with
   | none=>rw [h1] at h;exact absurd h (by simp)
   | some x =>
    obtain ⟨p1,k1⟩:=x;rw [h1] at h;simp only at h;have hk1:=Tw h1;cases h2:yB f false (fun j=>q j||p1 j) (r.drop k1) with
    | none=>rw [h2] at h;exact absurd h (by simp)
    | some y =>
     obtain ⟨p2,k2⟩:=y;rw [h2] at h;have hk2:=zLg h2;rw [List.length_drop] at hk2;simp only [aA,aB] at h;omega
  ·simp only [aD] at h0;have:=oF h0.1;simp only [List.length_cons,List.length_nil,aA,aB] at this h;omega
theorem zLh {s:List UInt8}{p:Nat->Bool}{k:Nat}(h:wO s=some (p,k)):1<=k∧k<=s.length:=by
 unfold wO at h;cases h0:[91].isPrefixOf s<;>simp only [h0,cond_true,cond_false] at h
 ·exact absurd h (by simp)
 ·cases h1:yB (s.length+1) true (fun _=>false) (s.drop (bif [94].isPrefixOf (s.drop 1) then 2 else 1)) with
  | none=>rw [h1] at h;exact absurd h (by simp)
  | some x =>
   obtain ⟨q,j⟩:=x;rw [h1] at h;have hj:=zLg h1;rw [List.length_drop] at hj;simp only at h;cases h2:gZ (bif [94].isPrefixOf (s.drop 1) then (fun j=>!q j) else q)<;>simp only [h2,cond_true,cond_false] at h
   ·simp only [aA,aB] at h;omega
   ·exact absurd h (by simp)
theorem uZ {p:Nat->Bool}:Ty.beq (.arr 4 (.int .u64)) (wd p) [0,0,0,0]=gZ p:=by
 rw [Bool.eq_iff_iff,<- pR,yJe,pR,yFn,gZ,List.all_eq_true];simp
def Tx (s:List UInt8) (i:Nat) (no:Bool) (o:Option ((Nat->Bool) × Nat)) (e:Option (Sum (List Int × List UInt8 × Int × Unit) (Int × Int × List Int × List UInt8 × Int × Unit))):Prop:=match o with
 | some (p,k)=>bif gZ (bif no then (fun j=>!p j) else p) then ∃ a w,e=some (.inr (42,0,w,s,a,())) else e=some (.inl (wd (bif no then (fun j=>!p j) else p),s,((i+k:Nat):Int),()))
 | none=>∃ a w,e=some (.inr (42,0,w,s,a,()))
theorem zZl {n:Nat}{s:List UInt8}{no:Bool}(hn:300<=n) (hs:s.length<1000000):∀ (f:Nat) (i m:Nat) (first:Bool) (q:Nat->Bool),i<=s.length->s.length-i<f->f<=m ->
  Tx s i no (yB f first q (s.drop i)) (fix (lD n) m (no,first,wd q,s,(i:Int),())):=by
 intro f;induction f with
 | zero=>intro i m first q _ h;omega
 | succ f ih =>
  intro i m first q hi hf hm
  rw [cZ (by omega),lD];simp only;have hO:∀ p:Nat->Bool,oL n [wd q,wd p]=some (wd fun j=>q j||p j):=by
   intro p;have:=zFz (n:=n) [q,p] (by omega) (by simp;omega) (by simp);simpa using this
  have hpart:Tx s i no (match rA first (s.drop i) with
   | none=>none
   | some (p,k)=>match yB f false (fun j=>q j||p j) ((s.drop i).drop k) with
    | none=>none
    | some (x,m)=>some (x,k+m)) (ob2 (mZ n (first,s,(i:Int),())) (fun y13 =>
   ob (oL n [wd q,y13.1]) fun y14 =>
   fix (lD n) (m-1) (no,false,y14,y13.2.1,y13.2.2.1,())) (fun y13 =>
   some (.inr (y13.1,y13.2.1,wd q,y13.2.2.1,y13.2.2.2.1,())))):=by
   have hp:=yCw (n:=n) (first:=first) hn hi hs;cases h1:rA first (s.drop i) with
   | none =>
    rw [h1] at hp;obtain ⟨a,hp⟩:=hp;rw [hp];exact ⟨_,_,rfl⟩
   | some x =>
    obtain ⟨p,k⟩:=x;rw [h1] at hp;simp only [zCb] at hp;have hk:=Tw h1;rw [List.length_drop] at hk;rw [hp];simp only [zSx];rw [hO p];simp only [aP];have:=ih (i+k) (m-1) false (fun j=>q j||p j) (by omega) (by omega) (by omega);rw [List.drop_drop];cases h2:yB f false (fun j=>q j||p j) (s.drop (i+k)) with
    | none=>rw [h2] at this;exact this
    | some y =>
     obtain ⟨p2,k2⟩:=y;rw [h2] at this;simp only [Tx] at this ⊢;rw [show i+(k+k2)=i+k+k2 by omega];exact this
  unfold yB;cases first
  case true =>
   simp only [eZ,Bool.not_true,Bool.and_false,cond_false];exact hpart
  simp only [bU,Bool.not_false,Bool.and_true];cases h0:[93].isPrefixOf (s.drop i)
  ·rw [nW hi h0];simp only [aP,Bool.not_false,eZ,cond_false];exact hpart
  ·rw [nV hi hs h0];simp only [aP,Bool.not_true,bU,cond_true,Tx];cases no
   ·simp only [bU,cond_false];cases hq:gZ q
    ·simp only [cond_false];rw [aF (by exact uZ.trans hq)];rfl
    ·simp only [cond_true];refine ⟨((i+[93].length:Nat):Int),wd q,?_⟩;rw [aN (by exact uZ.trans hq)];rfl
   ·simp only [eZ,cond_true,zBy (n:=n) (by omega),aP];cases hq:gZ (fun j=>!q j)
    ·simp only [cond_false];rw [aF (by exact uZ.trans hq)];rfl
    ·simp only [cond_true];refine ⟨((i+[93].length:Nat):Int),wd (fun j=>!q j),?_⟩;rw [aN (by exact uZ.trans hq)];rfl
def zZm:Option ((Nat->Bool)×Nat)->List Int×Int×Int | some (p,k)=>(wd p,((k:Nat):Int),0) | none=>([0,0,0,0],0,42)
theorem zEa {n:Nat}{s:List UInt8}(hn:400<=n) (hsn:s.length+10<n) (hs:s.length<1000000):qQ n s=some (zZm (wO s)):=by
 have hT:∀ e:Option (Sum (List Int × List UInt8 × Int × Unit) (Int × Int × List Int × List UInt8 × Int × Unit)),kR n ([0,0,0,0],s,0,())=e->qQ n s=ob (ob2 e (fun y=>some (0,0,y)) (fun y=>some y)) fun y1=>br (y1.1 != 0) (some ([0,0,0,0],0,y1.1)) (some (y1.2.2.1,y1.2.2.2.2.1,0)):=by
  intro e he;unfold qQ fQ;simp only;rw [he]
 have hB:∀ a w,kR n ([0,0,0,0],s,0,())=some (.inr (42,0,w,s,a,()))->qQ n s=some ([0,0,0,0],0,42):=by
  intro a w h;rw [hT _ h];rfl
 have h0:kR n ([0,0,0,0],s,0,())=br (![91].isPrefixOf s) (some (.inr (42,0,[0,0,0,0],s,0,()))) (fix (lD n) n ([94].isPrefixOf (s.drop 1),true,wd (fun _=>false),s,((bif [94].isPrefixOf (s.drop 1) then 2 else 1:Nat):Int),())):=by
  unfold kR;simp only;rw [show (0:Int)=((0:Nat):Int) from rfl];cases h1:[91].isPrefixOf s
  ·rw [nW (by omega) (by rw [List.drop_zero];exact h1)];rfl
  ·rw [nV (by omega) hs (by rw [List.drop_zero];exact h1)];have hl:=oF h1;simp only [List.length_cons,List.length_nil] at hl;simp only [aP,Bool.not_true,bU];rw [show 0+([91]:List UInt8).length=1 from rfl];cases h2:[94].isPrefixOf (s.drop 1)
   ·rw [nW (by omega) h2,pR];rfl
   ·rw [nV (by omega) hs h2,pR];rfl
 unfold wO;cases h1:[91].isPrefixOf s
 ·rw [h1] at h0;simp only [Bool.not_false,eZ] at h0;rw [hB _ _ h0];rfl
 ·rw [h1] at h0;simp only [Bool.not_true,bU] at h0;simp only [cond_true];have hi:(bif [94].isPrefixOf (s.drop 1) then 2 else 1)<=s.length:=by
   have hl:=oF h1;simp only [List.length_cons,List.length_nil] at hl;cases h2:[94].isPrefixOf (s.drop 1)
   ·simp only [cond_false];omega
   ·have hl2:=oF h2;rw [List.length_drop] at hl2;simp only [List.length_cons,List.length_nil] at hl2;simp only [cond_true];omega
  have hL:=zZl (n:=n) (s:=s) (no:=[94].isPrefixOf (s.drop 1)) (by omega) hs (s.length+1) _ n true (fun _=>false) hi (by omega) (by omega);rw [<- h0] at hL;cases h3:yB (s.length+1) true (fun _=>false) (s.drop (bif [94].isPrefixOf (s.drop 1) then 2 else 1)) with
  | none =>
   rw [h3] at hL;obtain ⟨a,w,hL⟩:=hL;rw [hB _ _ hL];rfl
  | some x =>
   obtain ⟨p,k⟩:=x;rw [h3] at hL;simp only [Tx] at hL;simp only;cases h4:gZ (bif [94].isPrefixOf (s.drop 1) then (fun j=>!p j) else p)<;>rw [h4] at hL<;>simp only [cond_true,cond_false] at hL ⊢
   ·rw [hT _ hL];rfl
   ·obtain ⟨a,w,hL⟩:=hL;rw [hB _ _ hL];rfl
end Go.Dec
