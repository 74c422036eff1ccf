/- Part of a proof over this seat: a library of my own, and what it says of this seat. No statement is proved here. -/
import Derived.Test.YthhbdkdofhhoeaaGreatDoorPartBU
import Derived.Test.YthhbdkdofhhoeaaGreatDoorPartBH
import Derived.Test.YthhbdkdofhhoeaaGreatDoorPartBV
namespace Go.Dec
section
variable {n:Nat} {s r:List UInt8} {b:Nat} {l:List Nd}
theorem zQw (h:r <:+ s) (hs:s.length < 1000000) {a:UInt8} {X Y:Option (Int × Int × Int)} :
  br (decide (IntKind.wrap .i64 (psn s r+(([a]:List UInt8).length:Int)) > (s.length:Int))) Y (
   chk (decide (0 <= IntKind.wrap .i64 (psn s r+(([a]:List UInt8).length:Int))) && decide (IntKind.wrap .i64 (psn s r+(([a]:List UInt8).length:Int)) <= (s.length:Int)) && (decide (0 <= psn s r) && decide (psn s r <= IntKind.wrap .i64 (psn s r+(([a]:List UInt8).length:Int))))) (
    br (!((s.take (IntKind.wrap .i64 (psn s r+(([a]:List UInt8).length:Int))).toNat).drop (psn s r).toNat == [a])) Y X))=bif [a].isPrefixOf r then X else Y:=by
 have hl:=jI h
 have e2:((([a]:List UInt8).length:Nat):Int)=1:=rfl
 rw [e2]
 cases r with
 | nil=>rw [bD (by unfold psn; omega) (by unfold psn; omega),aK (by unfold psn; simp; omega)]; rfl
 | cons c r1 =>
  have h2:1 <= (c :: r1).length:=by simp
  have hw:IntKind.wrap .i64 (psn s (c :: r1)+1)=psn s ((c :: r1).drop 1):=iX h hs (k:=1) h2
  have hd:=zFp h (k:=1) h2
  rw [hw,aF (by rw [hd]; unfold psn; simp at hl ⊢; omega),aD (by rw [hd]; unfold psn; simp at hl ⊢; omega),take_at h h2]
  have e:(List.take 1 (c :: r1) == [a])=[a].isPrefixOf (c :: r1):=by
   rw [Bool.eq_iff_iff]; simp [List.isPrefixOf]
   exact eq_comm
  rw [e]
  cases [a].isPrefixOf (c :: r1) <;> rfl
theorem yGz (h : r <:+ s) (hs : s.length < 1000000) (hn : 10 <= n) : xS n (s, psn s r, [125]) = some (zHz s (mZ r)) := by
  unfold xS
  simp only
  rw [zPw h hs hn]
  have hs1 : (oK r).2 <:+ s := (Di r).trans h
  unfold mZ
  cases hlo : oK r with
  | mk lo r1 =>
    rw [hlo] at hs1
    simp only at hs1
    cases lo with
    | none => rfl
    | some lo =>
      rw [show zHy s (some lo, r1) = ((lo : Int), psn s r1) from rfl]
      simp only [aQ]
      rw [aF (by unfold psn; simp), zQw hs1 hs]
      have h1 : (bif [125].isPrefixOf r1 then (br (decide ((lo : Int) > 255)) (some (0, 0, (-1))) (br (decide ((lo : Int) > 255)) (some (0, 0, (-1))) (br (decide ((lo : Int) ≥ 0)) (
                  br (decide ((lo : Int) < (lo : Int))) (
                    some (0, 0, (-1))) (
                    br ((lo : Int) == 0) (
                      some (0, 0, (-1))) (
                      some ((lo : Int), (lo : Int), IntKind.wrap .i64 (psn s r1 + (([125] : List UInt8).length : Int)))))) (
                  br ((lo : Int) == 0) (
                    some (0, 0, (-1))) (
                    some ((lo : Int), (lo : Int), IntKind.wrap .i64 (psn s r1 + (([125] : List UInt8).length : Int)))))))) else some (0, 0, (-1))) = some (zHz s (bif [125].isPrefixOf r1 && decide (lo <= 255) && decide (1 <= lo) then some ((lo : Int), (lo : Int), r1.drop 1) else none)) := by
        cases hp : [125].isPrefixOf r1
        · rfl
        simp only [cond_true, Bool.true_and]
        have hpl := iT hp
        by_cases h5 : lo <= 255
        · rw [aF (by simp; omega), aF (by simp; omega), aK (by simp), aF (by simp), decide_eq_true h5, iX hs1 hs hpl]
          by_cases h6 : 1 <= lo
          · rw [aF (by simp; omega), decide_eq_true h6]; rfl
          · rw [aK (by simp; omega), decide_eq_false h6]; rfl
        · rw [aK (by simp; omega), decide_eq_false h5]; rfl
      rw [h1, pk1 hs1 44 (k := 44) rfl]
      cases hc : [44].isPrefixOf r1
      · rfl
      simp only [cond_true]
      have hpc := iT hc
      have hs2 : r1.drop 1 <:+ s := Wo hs1 1
      have hw1 : IntKind.wrap .i64 (psn s r1 + 1) = psn s (r1.drop 1) := iX hs1 hs (k := 1) hpc
      rw [hw1, zPw hs2 hs hn]
      have hs3 : (oK (r1.drop 1)).2 <:+ s := (Di _).trans hs2
      cases hhi : oK (r1.drop 1) with
      | mk hi r2 =>
        rw [hhi] at hs3
        simp only at hs3
        cases hi with
        | none =>
          have he2 : r2 = r1.drop 1 := by
            have : (oK (r1.drop 1)).1 = none := by rw [hhi]
            simp only [oK] at this hhi
            cases hz : fU 3 (r1.drop 1) == 0
            · rw [hz] at this; simp at this
            · have hz : fU 3 (r1.drop 1) = 0 := by simpa using hz
              simp only [hz, List.drop_zero, aB] at hhi
              exact hhi.2.symm
          subst he2
          rw [show ∀ x, zHy s (none, x) = (0, -1) from fun _ => rfl]
          simp only [aQ]
          rw [aF (by rfl), zQw hs2 hs]
          cases hp : [125].isPrefixOf (r1.drop 1)
          · rfl
          simp only [cond_true, Bool.true_and]
          have hpl := iT hp
          by_cases h5 : lo <= 255
          · rw [aF (by simp; omega), aF (by rfl), aF (by rfl), aF (by rfl), decide_eq_true h5, iX hs2 hs hpl]; rfl
          · rw [aK (by simp; omega), decide_eq_false h5]; rfl
        | some hi =>
          rw [show zHy s (some hi, r2) = ((hi : Int), psn s r2) from rfl]
          simp only [aQ]
          rw [aK (by unfold psn; simp), zQw hs3 hs]
          cases hp : [125].isPrefixOf r2
          · rfl
          simp only [cond_true, Bool.true_and]
          have hpl := iT hp
          by_cases h5 : lo <= 255
          · rw [aF (by simp; omega), decide_eq_true h5]
            by_cases h6 : hi <= 255
            · rw [aF (by simp; omega), aK (by simp), decide_eq_true h6]
              by_cases h7 : lo <= hi
              · rw [aF (by simp; omega), decide_eq_true h7]
                by_cases h8 : 1 <= hi
                · rw [aF (by simp; omega), decide_eq_true h8, iX hs3 hs hpl]; rfl
                · rw [aK (by simp; omega), decide_eq_false h8]; rfl
              · rw [aK (by simp; omega), decide_eq_false h7]; rfl
            · rw [aK (by simp; omega), decide_eq_false h6]; rfl
          · rw [aK (by simp; omega), decide_eq_false h5]; rfl
end
end Go.Dec
namespace Go.Dec
def FOK (s:List UInt8) (l:List Nd) (o:iG Pt) (e:Option (Er1 × Int)):Prop:=match o with
 | .ok t r b=>e=some ((l++t.enc l.length,(b:Int),0,0,()),psn s r)
 | .er c k=>∃ (l':List Nd) (b' i':Int),e=some ((l',b',((s.length - k:Nat):Int),(c:Int),()),i')
theorem eqC (c k:UInt8):((c.toNat:Int) == (k.toNat:Int))=(c == k):=by rw [eqI k]; exact zHu _ _
section
variable {n:Nat} {s r:List UInt8} {b:Nat} {l:List Nd} {rows:List UInt8->Nat->iG (List (List Pt))}
theorem yAh (s r:List UInt8):decide (psn s r < 0)=false:=decide_eq_false (by unfold psn; omega)
theorem zTm (hn:s.length < n) (hs2:s.length < 1000000) (d:UInt8):yT n (s,(d.toNat:Int))=some (s.contains d):=by
 have:yT n (s,(d.toNat:Int))=zBd n (s,(d.toNat:Int)):=rfl
 rw [this,zSb s hn hs2]
theorem zTn {x:Er1} {i e:Int}:bE n (x,i,e)=some (x.1,x.2.1,i,e,()):=rfl
theorem Rh {c:UInt8} {r1:List UInt8} (h:c :: r1 <:+ s) (hs:s.length < 1000000) :
  inB (psn s (c :: r1)) s.length=true∧aU 0 s (psn s (c :: r1))=c∧r1 <:+ s∧IntKind.wrap .i64 (psn s (c :: r1)+1)=psn s r1∧decide (psn s (c :: r1) < (s.length:Int))=true∧(psn s (c :: r1) == (s.length:Int))=false:=by
 have hl:=jI h
 simp only [List.length_cons] at hl
 refine ⟨eU (by unfold psn; omega) (by unfold psn; simp only [List.length_cons]; omega),?_,(List.suffix_cons c r1).trans h,iX h hs (k:=1) (by simp),decide_eq_true (by unfold psn; simp only [List.length_cons]; omega),by rw [Dh h]; rfl⟩
 have:=Ie h (j:=0) (c:=c) (d:=0) rfl; simpa using this
theorem zQx (h:r <:+ s) (hs:s.length < 1000000):jG n (s,psn s r)=some (kZ r):=by
 unfold jG
 simp only
 cases r with
 | nil=>rw [aK (by rw [Dh h]; rfl)]; rfl
 | cons c r1 =>
  obtain ⟨h1,h2,h3,h4,h5,h6⟩:=Rh h hs
  rw [aF h6,aD h1,h2]
  unfold kZ
  simp only
  rw [show ((c.toNat:Int) == 124)=(c == 124) from eqC c 124,show ((c.toNat:Int) == 41)=(c == 41) from eqC c 41]
  cases c == 124
  ·simp only [bC,Bool.false_or]; rw [aD h1]
  ·rfl
theorem zIj (hn:10 <= n) (h:r <:+ s) (hs:s.length < 1000000):fB n (s,psn s r)=some (fE r):=by
 unfold fB
 simp only
 cases r with
 | nil=>rw [aF (by unfold psn; simp)]; rfl
 | cons c r1 =>
  obtain ⟨h1,h2,h3,h4,h5,h6⟩:=Rh h hs
  rw [aK h5,aD h1,h2,zTm (by simp; omega) (by simp)]
  simp only [aQ,fE,List.contains_cons,List.contains_nil,Bool.or_false,Bool.or_assoc]
theorem Ow {a1 a2:Int} {nd:Nd} {bb:Int} (hl:l.length < 1000000):eH n ((l,bb,a1,a2,()),nd)=some (l++[nd],bb,a1,a2,()):=by
 unfold eH
 simp only
 rw [aD (by simp [room]; omega),aD (by simp [room]; omega)]
 simp
theorem Ox {p:Nat->Bool} {a1 a2 bb:Int} (hn:300 <= n) (hl:l.length < 1000000):lU n ((l,bb,a1,a2,()),bx p)=some (l++(Pt.bytes p).enc l.length,bb,a1,a2,()):=by
 unfold lU
 simp only
 rw [zHt hn]
 simp only [aQ]
 rw [Ow hl]; rfl
def Oy (r:List UInt8):Option (Int × Int × List UInt8) :=
 match r with
 | []=>some (0,0,[])
 | c :: r1=>bif c == 42 then some (0,-1,r1) else bif c == 43 then some (1,-1,r1) else bif c == 63 then some (0,1,r1) else bif c == 123 then mZ r1 else some (0,0,c :: r1)
theorem yHa (hn:10 <= n) (h:r <:+ s) (hs:s.length < 1000000):jH n (s,psn s r)=some (zHz s (Oy r)):=by
 unfold jH Oy
 simp only
 cases r with
 | nil=>rw [aK (by rw [Dh h]; rfl)]; rfl
 | cons c r1 =>
  obtain ⟨h1,h2,h3,h4,h5,h6⟩:=Rh h hs
  rw [aF h6,aD h1,h2]
  rw [show ((c.toNat:Int) == 42)=(c == 42) from eqC c 42,show ((c.toNat:Int) == 43)=(c == 43) from eqC c 43,show ((c.toNat:Int) == 63)=(c == 63) from eqC c 63,show ((c.toNat:Int) == 123)=(c == 123) from eqC c 123,h4]
  simp only
  cases c == 42
  ·cases c == 43
   ·cases c == 63
    ·cases c == 123
     ·rfl
     ·simp only [bC,bV,cond_false,cond_true]
      rw [yGz h3 hs hn]; rfl
    ·rfl
   ·rfl
  ·rfl
theorem Oz {t : Pt} (hn : 300 <= n) (h : r <:+ s) (hs : s.length < 1000000) (hl : l.length + t.sz < 900000) : FOK s l (nH t r b) (
      ob (jH n (s, psn s r)) fun y31 =>
      br (decide (y31.2.2 < 0)) (
       ob (bE n ((l ++ t.enc l.length, (b : Int), 0, 0, ()), psn s r, 43)) fun y32 =>
       some (y32, psn s r)) (
       br (y31.2.2 == psn s r) (
        some ((l ++ t.enc l.length, (b : Int), 0, 0, ()), psn s r)) (
        ob (eH n ((l ++ t.enc l.length, (b : Int), 0, 0, ()), (6, ([0, 0, 0, 0], (IntKind.wrap .i64 (((l ++ t.enc l.length).length : Int) - 1), (0, (y31.1, (y31.2.1, (0, ()))))))))) fun y34 =>
        ob (fB n (s, y31.2.2)) fun y35 =>
        br y35 (
         ob (bE n (y34, y31.2.2, 43)) fun y36 =>
         some (y36, y31.2.2)) (
         some (y34, y31.2.2))))) := by
  rw [yHa (by omega) h hs]
  simp only [aQ]
  have hle := jI h
  have hlen : (l ++ t.enc l.length).length = l.length + t.sz := by rw [List.length_append, Pt.dS]
  have htp := t.qP
  have hfin : ∀ (lo hi : Int) (r2 : List UInt8), r2 <:+ s -> r2.length < r.length -> FOK s l (Ke t lo hi r2 b) (
      br (decide (psn s r2 < 0)) (
       ob (bE n ((l ++ t.enc l.length, (b : Int), 0, 0, ()), psn s r, 43)) fun y32 =>
       some (y32, psn s r)) (
       br (psn s r2 == psn s r) (
        some ((l ++ t.enc l.length, (b : Int), 0, 0, ()), psn s r)) (
        ob (eH n ((l ++ t.enc l.length, (b : Int), 0, 0, ()), (6, ([0, 0, 0, 0], (IntKind.wrap .i64 (((l ++ t.enc l.length).length : Int) - 1), (0, (lo, (hi, (0, ()))))))))) fun y34 =>
        ob (fB n (s, psn s r2)) fun y35 =>
        br y35 (
         ob (bE n (y34, psn s r2, 43)) fun y36 =>
         some (y36, psn s r2)) (
         some (y34, psn s r2))))) := by
    intro lo hi r2 h2 hlt
    have h2l := jI h2
    rw [aF (by unfold psn; simp), aF (by unfold psn; rw [beq_eq_false_iff_ne]; omega), Ow (by omega)]
    simp only [aQ]
    rw [zIj (by omega) h2 hs]
    simp only [aQ]
    unfold Ke
    cases fE r2
    · simp only [bC, cond_false, FOK]
      rw [hlen, bD (by omega) (by omega)]
      simp only [Pt.enc, Pt.top, List.append_assoc]
    · simp only [bV, cond_true, zTn, aQ]
      exact ⟨_, _, _, rfl⟩
  cases r with
  | nil =>
    rw [show Oy [] = some (0, 0, []) from rfl, show zHz s (some (0, 0, [])) = (0, 0, psn s []) from rfl]
    simp only
    rw [aF (yAh s []), aK (beq_self_eq_true _)]
    rfl
  | cons c r1 =>
    have h3 : r1 <:+ s := (List.suffix_cons c r1).trans h
    by_cases k42 : c = 42
    · subst k42; exact hfin _ _ r1 h3 (by simp)
    by_cases k43 : c = 43
    · subst k43; exact hfin _ _ r1 h3 (by simp)
    by_cases k63 : c = 63
    · subst k63; exact hfin _ _ r1 h3 (by simp)
    by_cases zCo : c = 123
    · subst zCo
      rw [show Oy (123 :: r1) = mZ r1 from rfl, show nH t (123 :: r1) b = match mZ r1 with | none => .er 43 (r1.length + 1) | some (lo, hi, r2) => Ke t lo hi r2 b from rfl]
      cases ht : mZ r1 with
      | none =>
        rw [show zHz s none = (0, 0, -1) from rfl]
        simp only
        rw [aK (by rfl)]
        exact ⟨_, _, _, rfl⟩
      | some x =>
        obtain ⟨lo, hi, r2⟩ := x
        have := (Qy ht).length_le
        exact hfin lo hi r2 ((Qy ht).trans h3) (by simp only [List.length_cons]; omega)
    have f : ∀ k : UInt8, c ≠ k -> (c == k) = false := fun k h => by simpa using h
    rw [show Oy (c :: r1) = some (0, 0, c :: r1) by unfold Oy; simp only [f 42 k42, f 43 k43, f 63 k63, f 123 zCo, cond_false],
      Br (by simp only [fE, f 42 k42, f 43 k43, f 63 k63, f 123 zCo, Bool.or_false])]
    rw [show zHz s (some (0, 0, c :: r1)) = (0, 0, psn s (c :: r1)) from rfl]
    simp only
    rw [aF (yAh s _), aK (beq_self_eq_true _)]
    rfl
def Ri (s:List UInt8) (l:List Nd) (o:iG (List (List Pt))) (e:Option (Er1 × Int)):Prop:=match o with
 | .ok rs r b=>e=some ((l++(dA rs).enc l.length,(b:Int),0,0,()),psn s r)
 | .er c k=>∃ (l':List Nd) (b' i':Int),e=some ((l',b',((s.length - k:Nat):Int),(c:Int),()),i')
theorem yHb:bx (bU 0 255)=bx (fun _=>true):=kJ fun i hi=>by simp [bU]; omega
theorem yKy {rr:Er4->Option (Er1 × Int)} {deep:Int} {c:UInt8} {r1:List UInt8} (hn:s.length+500 <= n) (h:c :: r1 <:+ s) (hs:s.length < 200000) (hb:b <= 9) (hl:l.length+3 * r1.length < 800000)
  (hd:0 <= deep∧deep < 1000) (hcl:c ≠ 124∧c ≠ 41)
  (hgood:b+1 <= 9->rU r1 (b+1) (rows r1 (b+1)))
  (hrow:b+1 <= 9->Ri s l (rows r1 (b+1)) (rr (s,psn s r1,(l,((b+1:Nat):Int),0,0,()),deep+1))) :
  FOK s l (jW rows (c :: r1) b) (sN n rr (s,psn s (c :: r1),(l,(b:Int),0,0,()),deep)):=by
 obtain ⟨h1,h2,h3,h4,h5,h6⟩:=Rh h (by omega)
 have hle:=jI h
 simp only [List.length_cons] at hle
 have eqc:∀ k:UInt8,((c.toNat:Int) == (k.toNat:Int))=(c == k):=fun k=>eqC c k
 unfold sN
 simp only
 rw [aD h1,h2,h4,zIj (by omega) h3 (by omega),zIj (by omega) h (by omega)]
 rw [show ((c.toNat:Int) == 94)=(c == 94) from eqc 94,show ((c.toNat:Int) == 36)=(c == 36) from eqc 36,show ((c.toNat:Int) == 46)=(c == 46) from eqc 46,show ((c.toNat:Int) == 91)=(c == 91) from eqc 91,show ((c.toNat:Int) == 40)=(c == 40) from eqc 40,show ((c.toNat:Int) == 92)=(c == 92) from eqc 92]
 unfold jW yJ
 simp only
 by_cases k94:c=94
 ·subst k94
  simp only [show ((94:UInt8) == 94)=true from rfl,show ((94:UInt8) == 36)=false from rfl,bV,bC,cond_true,aQ]
  cases ha:fE r1
  ·simp only [bC,cond_false]
   rw [Ow (by omega),Br ha]; rfl
  ·exact ⟨_,_,_,rfl⟩
 rw [show (c == 94)=false by simpa using k94]
 by_cases k36:c=36
 ·subst k36
  simp only [show ((36:UInt8) == 36)=true from rfl,bV,bC,cond_true,cond_false,aQ]
  cases ha:fE r1
  ·simp only [bC,cond_false]
   rw [Ow (by omega),Br ha]; rfl
  ·exact ⟨_,_,_,rfl⟩
 rw [show (c == 36)=false by simpa using k36]
 simp only [bC,cond_false,aQ]
 cases ha:fE (c :: r1)
 case true=>exact ⟨_,_,_,rfl⟩
 simp only [bC,cond_false]
 have hl2:l.length < 800000:=by omega
 by_cases k46:c=46
 ·subst k46
  simp only [show ((46:UInt8) == 46)=true from rfl,bV,cond_true]
  rw [show ((0:Int),(255:Int))=(((0:Nat):Int),((255:Nat):Int)) from rfl,wO (by omega) (by omega) (by omega),yHb]
  simp only [aQ]
  rw [Ox (by omega) (by omega)]
  simp only [aQ]
  exact Oz (by omega) h3 (by omega) (by simp only [Pt.sz]; omega)
 rw [show (c == 46)=false by simpa using k46]
 simp only [bC,cond_false]
 by_cases k91:c=91
 ·subst k91
  simp only [show ((91:UInt8) == 91)=true from rfl,bV,cond_true]
  rw [aD (zPu h),Oo,Ka h,zCh (by omega) (by simp only [List.length_cons]; omega) (by simp only [List.length_cons]; omega)]
  simp only [aQ]
  cases hbk:Bq (91 :: r1) with
  | none =>
   simp only [Wn]
   rw [aK (by rfl)]
   exact ⟨_,_,_,rfl⟩
  | some x =>
   obtain ⟨p,k⟩:=x
   have hk:=zCg hbk
   simp only [Wn]
   rw [aF (by rfl),Ox (by omega) (by omega),iX h (by omega) hk.2]
   simp only [aQ]
   exact Oz (by omega) (Wo h k) (by omega) (by simp only [Pt.sz]; omega)
 rw [show (c == 91)=false by simpa using k91]
 simp only [bC,cond_false]
 by_cases k40:c=40
 ·subst k40
  simp only [show ((40:UInt8) == 40)=true from rfl,bV,cond_true]
  by_cases h9:b=9
  ·rw [show (b == 9)=true by simpa using h9,aK (by rw [beq_iff_eq]; omega)]
   exact ⟨_,_,_,rfl⟩
  ·rw [show (b == 9)=false by simpa using h9,aF (by rw [beq_eq_false_iff_ne]; omega)]
   simp only [cond_false]
   have hR:=hrow (by omega)
   have hG:=hgood (by omega)
   rw [bD (x:=(b:Int)+1) (by omega) (by omega),bD (x:=deep+1) (by omega) (by omega),show (b:Int)+1=((b+1:Nat):Int) by omega]
   cases ho:rows r1 (b+1) with
   | er e k =>
    rw [ho] at hR hG
    obtain ⟨l',b',i',hR⟩:=hR
    rw [hR]
    simp only [aQ]
    have:=hG.1.1
    rw [aK (by simp; omega)]
    exact ⟨_,_,_,rfl⟩
   | ok rs r2 b2 =>
    rw [ho] at hR hG
    obtain ⟨g1,g2,g3,g4,g5,g6,g7,g8⟩:=hG
    unfold Ri at hR
    rw [hR]
    simp only [aQ]
    have hs2:=g1.trans h3
    rw [aF (by rfl),Dh hs2]
    have hz:=Qz rs g6 (fun ts h=>(g7 ts h).1)
    rcases g8 with rfl | ⟨r3,rfl⟩
    ·exact ⟨_,_,_,rfl⟩
    ·obtain ⟨q1,q2,q3,q4,q5,q6⟩:=Rh hs2 (by omega)
     have hlen:(l++(dA rs).enc l.length).length=l.length+(dA rs).sz:=by rw [List.length_append,Pt.dS]
     simp only [List.isEmpty_cons,bC]
     have hrp:=(dA rs).qP
     rw [Ow (by omega),q4]
     simp only [aQ]
     have:=Oz (n:=n) (s:=s) (r:=r3) (b:=b2) (l:=l) (t:=.group (dA rs) (b+1)) (by omega) q3 (by omega) (by simp only [Pt.sz]; omega)
     have e1:IntKind.wrap .i64 (((l++(dA rs).enc l.length).length:Int) - 1)=(dA rs).top l.length:=by rw [hlen,bD (by omega) (by omega)]; rfl
     rw [e1]
     have e2:l++(dA rs).enc l.length++[(7,[0,0,0,0],(dA rs).top l.length,0,0,0,((b+1:Nat):Int),())]=l++(Pt.group (dA rs) (b+1)).enc l.length:=by simp only [Pt.enc,List.append_assoc]
     rw [e2]
     exact this
 rw [show (c == 40)=false by simpa using k40]
 simp only [bC,cond_false]
 by_cases k92:c=92
 ·subst k92
  simp only [show ((92:UInt8) == 92)=true from rfl,bV,cond_true]
  rw [Dh h3]
  cases r1 with
  | nil=>exact ⟨_,_,_,rfl⟩
  | cons d r2 =>
   obtain ⟨g1,g2,g3,g4,g5,g6⟩:=Rh h3 (by omega)
   simp only [List.isEmpty_cons,bC]
   have hw:IntKind.wrap .i64 (psn s (92 :: d :: r2)+2)=psn s r2:=iX h (by omega) (k:=2) (by simp)
   have hw1:IntKind.wrap .i64 (psn s (92 :: d :: r2)+1)=psn s (d :: r2):=iX h (by omega) (k:=1) (by simp)
   rw [aD g1,g2,hw]
   simp only [List.length_cons] at hl
   by_cases zCn:d=110
   ·subst zCn
    rw [aK (by rfl),Ea _ (by simp; omega) (by simp),zPx]
    simp only [show ((110:UInt8) == 110)=true from rfl,cond_true,aQ]
    rw [Ox (by omega) (by omega)]
    simp only [aQ]
    exact Oz (by omega) g3 (by omega) (by simp only [Pt.sz]; omega)
   rw [aF (show ((d.toNat:Int) == 110)=false from (eqC d 110).trans (by simpa using zCn)),show (d == 110)=false by simpa using zCn]
   simp only [cond_false]
   rw [zTm (by simp; omega) (by simp)]
   simp only [aQ]
   rw [show ([46,91,92,40,41,42,43,63,123,125,124,94,36,47]:List UInt8).contains d=rW.contains d from rfl]
   cases rW.contains d
   ·simp only [bC,cond_false]
    by_cases h1:49 <= d.toNat
    ·rw [aK (by simp; omega)]
     by_cases h2:d.toNat <= 57
     ·rw [aK (by simp; omega),decide_eq_true h1,decide_eq_true h2]
      exact ⟨_,_,_,rfl⟩
     ·rw [aF (by simp; omega),decide_eq_false h2,Bool.and_false]
      exact ⟨_,_,_,rfl⟩
    ·rw [aF (by simp; omega),decide_eq_false h1]
     exact ⟨_,_,_,rfl⟩
   ·simp only [bV,cond_true]
    have hle2:=jI h
    simp only [List.length_cons] at hle2
    rw [aD (by unfold psn; simp only [List.length_cons]; simp; omega)]
    have ht:(s.take (psn s r2).toNat).drop (psn s (d :: r2)).toNat=[d]:=take_at h3 (k:=1) (by simp)
    rw [ht,Ea _ (by simp; omega) (by simp),zPx]
    simp only [aQ]
    rw [Ox (by omega) (by omega)]
    simp only [aQ]
    exact Oz (by omega) g3 (by omega) (by simp only [Pt.sz]; omega)
 rw [show (c == 92)=false by simpa using k92]
 simp only [bC,cond_false]
 rw [aD (by unfold psn; simp only [List.length_cons]; simp; omega)]
 have ht:(s.take (psn s r1).toNat).drop (psn s (c :: r1)).toNat=[c]:=take_at h (k:=1) (by simp)
 rw [ht,Ea _ (by simp; omega) (by simp),zPx]
 simp only [aQ]
 rw [Ox (by omega) (by omega)]
 simp only [aQ]
 exact Oz (by omega) h3 (by omega) (by simp only [Pt.sz]; omega)
end
end Go.Dec
namespace Go.Dec
section
variable {n:Nat} {s:List UInt8} {l:List Nd}
theorem yEa {pre:List Pt} {t:Pt} {post:List Pt} {o:Nat}:aU (0:Int) (fA o (pre++t :: post)) ((pre.length:Nat):Int)=t.top (o+szA pre):=by
 have hl:pre.length < (fA o (pre++t :: post)).length:=by rw [mJ]; simp
 rw [qN hl]
 have:=zCj pre t post o 0
 rw [List.getD_eq_getElem?_getD,List.getElem?_eq_getElem hl] at this
 exact this
theorem yHc {mk:Pt->Pt->Pt} {kind:Int} (hj:Joins mk kind) {bb:Int} {ts:List Pt} (hl:l.length+szL ts < 900000):∀ (k m:Nat) (pre suf:List Pt) (u:Pt),pre.length=k->ts=pre++suf->szA pre+u.sz+pre.length <= szL ts->k < m ->
  fix (sO n) m (fA l.length ts,kind,(k:Int) - 1,l++cZ l.length pre++u.enc (l.length+szA pre),bb,0,0,0,0,0,[],()) =
   some (l++(pre.foldr mk u).enc l.length,bb,0,0,()):=by
 intro k
 induction k with
 | zero =>
  intro m pre suf u hk hts hsz hm
  have:pre=[]:=List.eq_nil_of_length_eq_zero hk
  subst this
  rw [dL hm,sO]
  simp only
  rw [aF (by simp)]
  simp [cZ,szA]
 | succ k ih =>
  intro m pre suf u hk hts hsz hm
  obtain ⟨pre',t,rfl⟩:∃ pre' t,pre=pre'++[t]:=by
   rcases List.eq_nil_or_concat pre with rfl | ⟨p,t,rfl⟩
   ·simp at hk
   ·exact ⟨p,t,by simp⟩
  have hk':pre'.length=k:=by simpa using hk
  have zCp:ts=pre'++t :: suf:=by rw [hts]; simp
  have hat:=yEa (pre:=pre') (t:=t) (post:=suf) (o:=l.length)
  rw [<- zCp,hk'] at hat
  have hlen:(fA l.length ts).length=ts.length:=mJ _ _
  have htl:k < ts.length:=by rw [zCp]; simp; omega
  rw [dL (by omega),sO]
  simp only
  rw [show ((k+1:Nat):Int) - 1=(k:Int) by omega]
  rw [aK (by simp),hlen,aD (qW htl),show Ty.dflt (.int .i64)=(0:Int) from rfl,hat]
  rw [mQ] at hsz
  simp only [szA,List.length_append,List.length_cons,List.length_nil] at hsz
  rw [Ow (by simp only [List.length_append,kK,mQ,Pt.dS,szA]; omega)]
  simp only [aQ]
  rw [bD (x:=(k:Int) - 1) (by omega) (by omega)]
  have hc:=ih (m - 1) pre' (t :: suf) (mk t u) hk' zCp (by rw [hj.sz]; omega) (by omega)
  have hup:=u.qP
  have e1:IntKind.wrap .i64 (((l++cZ l.length (pre'++[t])++u.enc (l.length+szA (pre'++[t]))).length:Int) - 1)=u.top (l.length+szA (pre'++[t])):=by
   have e:(l++cZ l.length (pre'++[t])++u.enc (l.length+szA (pre'++[t]))).length=l.length+szA (pre'++[t])+u.sz:=by
    simp only [List.length_append,kK,Pt.dS]
   have hs2:szA (pre'++[t])=szA pre'+t.sz:=by rw [mQ]; simp [szA]
   rw [e,bD (by omega) (by omega)]; rfl
  have e2:l++cZ l.length (pre'++[t])++u.enc (l.length+szA (pre'++[t]))++[(kind,[0,0,0,0],t.top (l.length+szA pre'),u.top (l.length+szA (pre'++[t])),0,0,0,())]=l++cZ l.length pre'++(mk t u).enc (l.length+szA pre'):=by
   simp only [sZ,mQ,szA,hj.enc,List.append_assoc,Nat.add_zero,Nat.add_assoc]
  rw [e1,e2,hc,List.foldr_append]; rfl
theorem yAi {mk:Pt->Pt->Pt} {kind:Int} (hj:Joins mk kind) {bb:Int} {ts:List Pt} (hne:ts ≠ []) (hn:ts.length+10 <= n) (hl:l.length+szL ts < 900000) :
  jN n ((l++cZ l.length ts,bb,0,0,()),fA l.length ts,kind)=some (l++(pG mk ts).enc l.length,bb,0,0,()):=by
 obtain ⟨pre,t,rfl⟩:∃ pre t,ts=pre++[t]:=by
  rcases List.eq_nil_or_concat ts with rfl | ⟨p,t,rfl⟩
  ·exact absurd rfl hne
  ·exact ⟨p,t,by simp⟩
 have hsl:=xZ (pre++[t])
 have hlen:(pre++[t]).length=pre.length+1:=by simp
 unfold jN
 simp only
 rw [mJ,hlen]
 rw [hlen] at hn hsl
 rw [bD (by omega) (by omega),show ((pre.length+1:Nat):Int) - 2=(pre.length:Int) - 1 by omega]
 have hsz:szA (pre++[t])=szA pre+t.sz:=by rw [mQ]; rfl
 have hc:=yHc (n:=n) (l:=l) hj (bb:=bb) (ts:=pre++[t]) hl pre.length n pre [t] t rfl rfl (by omega) (by omega)
 have e:l++cZ l.length (pre++[t])=l++cZ l.length pre++t.enc (l.length+szA pre):=by rw [sZ,List.append_assoc]
 rw [e,hc,Xa]
def zMc (s:List UInt8) (c k:Nat) (e:Option (Er1 × Int)):Prop:=∃ (l':List Nd) (b' i':Int),e=some ((l',b',((s.length - k:Nat):Int),(c:Int),()),i')
def zXn (n:Nat) (s:List UInt8) (rows:List UInt8->Nat->iG (List (List Pt))) (rr:Er4->Option (Er1 × Int)) (F0:Nat):Prop :=
 ∀ (r:List UInt8) (b:Nat) (l:List Nd) (deep:Int),r <:+ s->b+1 <= 9->F0 <= b+1->0 <= deep->deep <= b+1->deep ≠ 0->l.length+3 * r.length < 600000->Ri s l (rows r (b+1)) (rr (s,psn s r,(l,((b+1:Nat):Int),0,0,()),deep))
theorem yHd {rows:List UInt8->Nat->iG (List (List Pt))} {rr:Er4->Option (Er1 × Int)} {F0:Nat} {deep:Int} (hs:s.length < 200000) (hn:s.length+500 <= n)
  (hgood:∀ r b,b+1 <= 9->F0 <= b+1->rU r (b+1) (rows r (b+1))) (hrow:zXn n s rows rr F0) (hd:0 <= deep) :
  ∀ (f m:Nat) (r:List UInt8) (b:Nat) (acc:List Pt),r <:+ s->b <= 9->F0 <= b+1->deep <= b->l.length+szL acc+3 * r.length < 600000->r.length < f->r.length < m ->
  match jJ rows f r b acc with
  | .er c k=>zMc s c k (fix (jB n rr) m (s,psn s r,deep,l++cZ l.length acc,(b:Int),0,0,0,0,0,fA l.length acc,[],()))
  | .ok ts r2 b2=>fix (jB n rr) m (s,psn s r,deep,l++cZ l.length acc,(b:Int),0,0,0,0,0,fA l.length acc,[],())=ob (jN n ((l++cZ l.length ts,(b2:Int),0,0,()),fA l.length ts,4)) fun y=>some (y,psn s r2):=by
 intro f
 induction f with
 | zero=>intro m r b acc _ _ _ _ _ h; omega
 | succ f ih =>
  intro m r b acc h hb h0 hdb hw hf hm
  have hz2:=xZ acc
  have hll:(l++cZ l.length acc).length=l.length+szA acc:=by rw [List.length_append,kK]
  rw [dL (by omega),jB]
  simp only
  rw [zQx h (by omega)]
  unfold jJ
  simp only [aQ]
  cases hc:kZ r
  case true=>simp only [Bool.not_true,bC,cond_true]
  simp only [Bool.not_false,bV,cond_false]
  cases r with
  | nil=>cases hc
  | cons c r1 =>
   have hig:=Bt (rows:=rows) hb (show c :: r1 ≠ [] by simp) (fun r h=>hgood r b h h0)
   simp only [kZ,Bool.or_eq_false_iff,beq_eq_false_iff_ne] at hc
   simp only [List.length_cons] at hw hf hm
   have hit:=yKy (n:=n) (s:=s) (b:=b) (l:=l++cZ l.length acc) (rows:=rows) (rr:=rr) (deep:=deep) hn h hs hb (by rw [hll]; omega) ⟨hd,by omega⟩ hc (fun h9=>hgood r1 b h9 h0)
    (fun h9=>hrow r1 b _ (deep+1) ((List.suffix_cons c r1).trans h) h9 h0 (by omega) (by omega) (by omega) (by rw [hll]; omega))
   cases ho:jW rows (c :: r1) b with
   | er e k =>
    rw [ho] at hit hig
    obtain ⟨l',b',i',hit⟩:=hit
    have:=hig.1.1
    rw [hit]
    simp only [aQ]
    rw [aK (by simp; omega)]
    exact ⟨_,_,_,rfl⟩
   | ok t r2 b2 =>
    rw [ho] at hit hig
    unfold FOK at hit
    obtain ⟨g1,g2,g3,g4,g5,g6⟩:=hig
    simp only [List.length_cons] at g2
    have htp:=t.qP
    rw [hit]
    simp only [aQ]
    rw [aF (by rfl)]
    have hlt:(l++cZ l.length acc++t.enc (l++cZ l.length acc).length).length=l.length+szA acc+t.sz:=by rw [List.length_append,Pt.dS,hll]
    rw [hlt,bD (by omega) (by omega),aD (Nat.ble_eq_true_of_le (by rw [mJ]; simp only [List.length_cons,List.length_nil,room]; omega))]
    have e1:l++cZ l.length acc++t.enc (l++cZ l.length acc).length=l++cZ l.length (acc++[t]):=by rw [sZ,hll,List.append_assoc]
    have e2:fA l.length acc++[((l.length+szA acc+t.sz:Nat):Int) - 1]=fA l.length (acc++[t]):=by rw [Ew]; rfl
    rw [e1,e2]
    have:=ih (m - 1) r2 b2 (acc++[t]) (g1.trans h) g4 (by omega) (by omega) (by rw [zHx]; simp only [szL]; omega) (by omega) (by omega)
    exact this
theorem yEb {rows:List UInt8->Nat->iG (List (List Pt))} {F0:Nat} (hgood:∀ r b,b+1 <= 9->F0 <= b+1->rU r (b+1) (rows r (b+1))) {r r2:List UInt8} {b b2:Nat} {f:Nat} (hb:b <= 9) (h0:F0 <= b+1) (hf:r.length < f)
  (hc:kZ r=false) (h:jJ rows f r b []=.ok [] r2 b2):False:=by
 cases f with
 | zero=>omega
 | succ f =>
  unfold jJ at h
  rw [hc] at h
  simp only [cond_false] at h
  have hig:=Bt (rows:=rows) hb (show r ≠ [] by intro h; rw [h] at hc; cases hc) (fun r h=>hgood r b h h0)
  cases ho:jW rows r b with
  | er e k=>rw [ho] at h; cases h
  | ok t r1 b1 =>
   rw [ho] at h hig
   simp only at h
   obtain ⟨g1,g2,g3,g4,g5,g6⟩:=hig
   have:=yA F0 hgood f r1 b1 ([]++[t]) g4 (by omega) (by omega)
   rw [h] at this
   obtain ⟨new,k1,_⟩:=this
   simp at k1
theorem yMb {rows:List UInt8->Nat->iG (List (List Pt))} {rr:Er4->Option (Er1 × Int)} {F0:Nat} {deep:Int} {top:Bool} (hs:s.length < 200000) (hn:3 * s.length+500 <= n)
  (hgood:∀ r b,b+1 <= 9->F0 <= b+1->rU r (b+1) (rows r (b+1))) (hrow:zXn n s rows rr F0) (hd:0 <= deep) (htop:top=(deep == 0)) {r:List UInt8} {b:Nat}
  (h:r <:+ s) (hb:b <= 9) (h0:F0 <= b+1) (hdb:deep <= b) (hw:l.length+3 * r.length < 600000) :
  match jJ rows (r.length+1) r b [] with
  | .er c k=>zMc s c k (vJ n rr (s,psn s r,(l,(b:Int),0,0,()),deep))
  | .ok [] r2 _=>zMc s (bif top && [41].isPrefixOf r2 then 41 else 40) r2.length (vJ n rr (s,psn s r,(l,(b:Int),0,0,()),deep))
  | .ok (t :: ts) r2 b2=>vJ n rr (s,psn s r,(l,(b:Int),0,0,()),deep)=some ((l++(dN (t :: ts)).enc l.length,(b2:Int),0,0,()),psn s r2):=by
 have hle:=jI h
 have hmain:kZ r=false->match jJ rows (r.length+1) r b [] with
  | .er c k=>zMc s c k (fix (jB n rr) n (s,psn s r,deep,l,(b:Int),0,0,0,0,0,[],[],()))
  | .ok [] r2 _=>False
  | .ok (t :: ts) r2 b2=>fix (jB n rr) n (s,psn s r,deep,l,(b:Int),0,0,0,0,0,[],[],())=some ((l++(dN (t :: ts)).enc l.length,(b2:Int),0,0,()),psn s r2):=by
  intro hc
  have hi:=yHd (n:=n) (s:=s) (l:=l) hs (by omega) hgood hrow hd (r.length+1) n r b [] h hb h0 hdb (by simp only [szL]; omega) (by omega) (by omega)
  have hg:=yA (rows:=rows) F0 hgood (r.length+1) r b [] hb h0 (by omega)
  simp only [cZ,fA,List.append_nil] at hi
  cases ho:jJ rows (r.length+1) r b [] with
  | er e k=>rw [ho] at hi; exact hi
  | ok ts r2 b2 =>
   rw [ho] at hi hg
   obtain ⟨new,k1,k2,k3,k4,k5,k6,k7,k8⟩:=hg
   rw [List.nil_append] at k1
   subst k1
   cases ts with
   | nil=>exact yEb (rows:=rows) (f:=r.length+1) hgood hb h0 (by omega) hc ho
   | cons t ts =>
    simp only at hi ⊢
    have hsl:=xZ (t :: ts)
    rw [hi,yAi zKc (by simp) (by omega) (by omega)]
    rfl
 have hclose:kZ r=true->jJ rows (r.length+1) r b []=.ok [] r b:=by
  intro hc; unfold jJ; rw [hc]; rfl
 unfold vJ
 simp only
 rw [zQx h (by omega)]
 simp only [aQ]
 have hb0:Jl n rr=jB n rr:=rfl
 have hbb:Gg n rr=jB n rr:=rfl
 rw [hb0,hbb]
 cases r with
 | nil =>
  rw [hclose rfl,aF (by unfold psn; simp)]
  simp only [kZ,bV,zTn,aQ,List.isPrefixOf,Bool.and_false,cond_false]
  exact ⟨_,_,_,rfl⟩
 | cons c r1 =>
  obtain ⟨h1,h2,h3,h4,h5,h6⟩:=Rh h (by omega)
  rw [aK h5,aD h1,h2,show ((c.toNat:Int) == 41)=(c == 41) from eqC c 41]
  cases hc:kZ (c :: r1)
  ·have hm:=hmain hc
   have n41:(c == 41)=false:=by simp only [kZ,Bool.or_eq_false_iff] at hc; exact hc.2
   rw [n41]
   simp only [bC]
   cases ho:jJ rows ((c :: r1).length+1) (c :: r1) b [] with
   | er e k=>rw [ho] at hm; exact hm
   | ok ts r2 b2 =>
    rw [ho] at hm
    cases ts with
    | nil=>exact hm.elim
    | cons t ts=>exact hm
  ·rw [hclose hc]
   simp only [bV]
   by_cases k41:c=41
   ·subst k41
    rw [show ((41:UInt8) == 41)=true from rfl]
    rw [<- htop]
    cases top
    ·exact ⟨_,_,_,rfl⟩
    ·exact ⟨_,_,_,rfl⟩
   ·rw [show (c == 41)=false by simpa using k41]
    have e:(bif top && [41].isPrefixOf (c :: r1) then 41 else 40)=40:=by
     rw [show ([41]:List UInt8).isPrefixOf (c :: r1)=false by simp [List.isPrefixOf]; exact fun h=>k41 h.symm,Bool.and_false]; rfl
    simp only [e]
    exact ⟨_,_,_,rfl⟩
theorem yKz {rows:List UInt8->Nat->iG (List (List Pt))} {rr:Er4->Option (Er1 × Int)} {F0:Nat} {deep:Int} {top:Bool} (hs:s.length < 200000) (hn:3 * s.length+500 <= n)
  (hgood:∀ r b,b+1 <= 9->F0 <= b+1->rU r (b+1) (rows r (b+1))) (hrow:zXn n s rows rr F0) (hd:0 <= deep) (htop:top=(deep == 0)) :
  ∀ (f m:Nat) (r:List UInt8) (b:Nat) (acc:List (List Pt)),(∀ x ∈ acc,x ≠ [])->r <:+ s->b <= 9->F0 <= b+1->deep <= b->l.length+gI acc+3 * r.length < 600000->gI acc+3 * r.length <= 3 * s.length->r.length < f->r.length < m ->
  Ri s l (yK rows top f r b acc) (fix (yU n rr) m (s,psn s r,deep,l++cZ l.length (acc.map dN),(b:Int),0,0,0,0,0,fA l.length (acc.map dN),[],())):=by
 intro f
 induction f with
 | zero=>intro m r b acc _ _ _ _ _ _ _ h; omega
 | succ f ih =>
  intro m r b acc hacc h hb h0 hdb hw hws hf hm
  have hz:=zB hacc
  have hll:(l++cZ l.length (acc.map dN)).length=l.length+szA (acc.map dN):=by rw [List.length_append,kK]
  have hR:=yMb (n:=n) (s:=s) (l:=l++cZ l.length (acc.map dN)) hs hn hgood hrow hd htop h hb h0 hdb (by rw [hll]; omega)
  have hg:=yA (rows:=rows) F0 hgood (r.length+1) r b [] hb h0 (by omega)
  rw [dL (by omega),yU]
  simp only
  unfold yK
  cases ho:jJ rows (r.length+1) r b [] with
  | er e k =>
   rw [ho] at hR hg
   obtain ⟨l',b',i',hR⟩:=hR
   have:=hg.1.1
   rw [hR]
   simp only [aQ]
   rw [aK (by simp; omega)]
   exact ⟨_,_,_,rfl⟩
  | ok ts r2 b2 =>
   rw [ho] at hR hg
   obtain ⟨new,k1,k2,k3,k4,k5,k6,k7,k8⟩:=hg
   rw [List.nil_append] at k1
   subst k1
   have k2l:=k2.length_le
   cases ts with
   | nil =>
    simp only at hR ⊢
    obtain ⟨l',b',i',hR⟩:=hR
    rw [hR]
    simp only [aQ]
    rw [aK (by cases top && [41].isPrefixOf r2 <;> rfl)]
    exact ⟨_,_,_,rfl⟩
   | cons t ts =>
    simp only at hR ⊢
    rw [hR]
    simp only [aQ]
    rw [aF (by rfl)]
    have hrz:=Yg t ts
    have hrp:=(dN (t :: ts)).qP
    have hlt:(l++cZ l.length (acc.map dN)++(dN (t :: ts)).enc (l++cZ l.length (acc.map dN)).length).length=l.length+szA (acc.map dN)+(dN (t :: ts)).sz:=by rw [List.length_append,Pt.dS,hll]
    rw [hlt,bD (by omega) (by omega),aD (Nat.ble_eq_true_of_le (by rw [mJ,List.length_map]; simp only [List.length_cons,List.length_nil,room]; omega))]
    have e1:l++cZ l.length (acc.map dN)++(dN (t :: ts)).enc (l++cZ l.length (acc.map dN)).length=l++cZ l.length ((acc++[t :: ts]).map dN):=by rw [List.map_append,List.map_cons,List.map_nil,sZ,hll,List.append_assoc]
    have e2:fA l.length (acc.map dN)++[((l.length+szA (acc.map dN)+(dN (t :: ts)).sz:Nat):Int) - 1]=fA l.length ((acc++[t :: ts]).map dN):=by rw [List.map_append,List.map_cons,List.map_nil,Ew]; rfl
    rw [e1,e2]
    have hs2:=k2.trans h
    have hacc':∀ x ∈ acc++[t :: ts],x ≠ []:=by
     intro x hx
     rcases List.mem_append.1 hx with hx | hx
     ·exact hacc x hx
     ·rw [List.mem_singleton] at hx; subst hx; simp
    have hz':=zB hacc'
    have hz2:gI (acc++[t :: ts])=gI acc+szL (t :: ts):=by rw [yZ]; simp [gI]
    have hsl:=xZ ((acc++[t :: ts]).map dN)
    rw [List.length_map] at hsl
    have yEx:jN n ((l++cZ l.length ((acc++[t :: ts]).map dN),(b2:Int),0,0,()),fA l.length ((acc++[t :: ts]).map dN),5)=some (l++(dA (acc++[t :: ts])).enc l.length,(b2:Int),0,0,()):=by
     refine yAi Xb (by simp) ?_ (by omega)
     rw [List.length_map]
     have:(acc++[t :: ts]).length=acc.length+1:=by simp
     omega
    rw [Dh hs2]
    cases r2 with
    | nil =>
     simp only [List.isEmpty_nil,bV,List.isPrefixOf,cond_false]
     rw [yEx]; rfl
    | cons c r3 =>
     obtain ⟨q1,q2,q3,q4,q5,q6⟩:=Rh hs2 (by omega)
     simp only [List.isEmpty_cons,bC]
     rw [aD q1,q2]
     have ep:([124]:List UInt8).isPrefixOf (c :: r3)=(c == 124):=by simp [List.isPrefixOf]; exact zHu _ _
     have en:((c.toNat:Int) != 124)=!(c == 124):=by rw [bne,show ((c.toNat:Int) == 124)=(c == 124) from eqC c 124]
     rw [ep,en,q4]
     cases c == 124
     ·simp only [Bool.not_false,bV,cond_false]
      rw [yEx]; rfl
     ·simp only [Bool.not_true,bC,cond_true,List.drop_succ_cons,List.drop_zero]
      simp only [List.length_cons] at k2l k3
      exact ih (m - 1) r3 b2 (acc++[t :: ts]) hacc' q3 k5 (by omega) (by omega) (by omega) (by omega) (by omega) (by omega)
theorem yLa (hs:s.length < 150000):∀ (f n:Nat) (top:Bool) (r:List UInt8) (b:Nat) (l:List Nd) (deep:Int),3 * s.length+500+f <= n->r <:+ s->11 <= f+b->b <= 9->0 <= deep->deep <= b->top=(deep == 0)->l.length+3 * r.length < 600000 ->
  Ri s l (kT f top r b) (qJ n (s,psn s r,(l,(b:Int),0,0,()),deep)):=by
 intro f
 induction f with
 | zero=>intro n top r b l deep _ _ h hb; omega
 | succ f ih =>
  intro n top r b l deep hn h hf hb hd hdb htop hl
  obtain ⟨n,rfl⟩:∃ k,n=k+1:=⟨n - 1,by omega⟩
  have hle:=jI h
  have yOl:qJ (n+1) (s,psn s r,(l,(b:Int),0,0,()),deep)=uR n (qJ n) (s,psn s r,(l,(b:Int),0,0,()),deep):=rfl
  rw [yOl]
  unfold uR kT
  simp only
  have:=yKz (n:=n) (s:=s) (l:=l) (rows:=kT f false) (rr:=qJ n) (F0:=11 - f) (deep:=deep) (top:=top) (by omega) (by omega) (fun r b h1 h2=>wP f false r (b+1) (by omega) h1)
   (fun r2 b2 l2 yMc h2 h9 h0 hd2 yPm hne hl2=>?_) hd htop (r.length+1) n r b [] (by simp) h hb (by omega) hdb (by simp only [gI]; omega) (by simp only [gI]; omega) (by omega) (by omega)
  ·simpa only [List.map_nil,cZ,fA,List.append_nil] using this
  ·exact ih n false r2 (b2+1) l2 yMc (by omega) h2 (by omega) h9 hd2 (by omega) (by rw [eq_comm,beq_eq_false_iff_ne]; exact hne) (by omega)
end
theorem zIk {n:Nat} {s:List UInt8} (hs:s.length < 150000) (hn:3 * s.length+600 <= n):xV n s=some (Wq (Kg s)):=by
 unfold xV
 simp only
 cases hsv:s with
 | nil=>rfl
 | cons c s0 =>
  have he:Kg (c :: s0)=match kT 11 true (c :: s0) 0 with
   | .er e k=>.inr (e,(c :: s0).length - k)
   | .ok rs r _ =>
    match r with
    | []=>bif decide ((dA rs).sz > 120) then .inr (2,0) else .inl (dA rs)
    | _=>.inr (41,(c :: s0).length - r.length):=rfl
  rw [he,<- hsv]
  rw [aF (by rw [hsv]; rfl)]
  have hb:=yLa hs 11 n true s 0 [] 0 (by omega) (List.suffix_refl _) (by omega) (by omega) (by omega) (by omega) rfl (by simp only [List.length_nil]; omega)
  have hgood:=wP 11 true s 0 (by omega) (by omega)
  have hp:psn s s=0:=by unfold psn; omega
  rw [hp] at hb
  have hb:Ri s [] (kT 11 true s 0) (qJ n (s,0,([],(0,(0,(0,())))),0)):=hb
  cases ho:kT 11 true s 0 with
  | er e k =>
   rw [ho] at hb hgood
   obtain ⟨l',b',i',hb⟩:=hb
   have:=hgood.1.1
   rw [hb]
   simp only [aQ]
   rw [aK (by simp; omega)]; rfl
  | ok rs r2 b2 =>
   rw [ho] at hb hgood
   unfold Ri at hb
   obtain ⟨g1,g2,g3,g4,g5,g6,g7,g8⟩:=hgood
   rw [hb]
   simp only [aQ]
   rw [aF (by rfl),List.nil_append,List.length_nil,Pt.dS]
   rcases g8 with rfl | ⟨r3,rfl⟩
   ·rw [aF (by unfold psn; simp)]
    by_cases Wy:(dA rs).sz > 120
    ·rw [aK (by simp; omega),decide_eq_true Wy]; rfl
    ·rw [aF (by simp; omega),decide_eq_false Wy]; rfl
   ·obtain ⟨q1,q2,q3,q4,q5,q6⟩:=Rh g1 (by omega)
    rw [aK q5]; rfl
end Go.Dec
namespace Go.Dec
theorem zSe:tX 2000 ()=some true:=by decide +kernel
theorem zTo {n:Nat} {l:List Nd} (hl:l.length < n) (hl2:l.length < 1000000):Eu n l=some l:=by
 have:Eu n l=Uq n l:=rfl
 rw [this,yKn hl hl2]
end Go.Dec
