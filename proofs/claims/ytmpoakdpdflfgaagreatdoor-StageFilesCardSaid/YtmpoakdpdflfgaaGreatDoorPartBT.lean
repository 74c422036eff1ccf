/- Part of a proof over this seat: a library of my own, and what it says of this seat. No statement is proved here. -/
import Derived.Test.YtmpoakdpdflfgaaGreatDoorPartBR
import Derived.Test.YtmpoakdpdflfgaaGreatDoorPartBA
namespace Go.Dec
def yE:List Line -> Prop
 | []=>True
 | e :: r=>(r = [] ∨ e.2.1 = true) ∧ yE r
theorem pF:∀ (r w:List UInt8),yE (bZ w r)
 | [],w=>by cases w <;> simp [bZ,yE]
 | c :: r,w=>by
  unfold bZ
  split
  ·exact ⟨.inr rfl,pF r []⟩
  ·exact pF r _
theorem uV {n:Nat} {t:List UInt8} (h:t.length <= 400):fQ n (t,()) = some (aH t,()):=by
 unfold fQ
 rw [bV (decide_eq_true (by simp; omega))]
def oP:List UInt8 -> List Line -> List UInt8
 | _,[]=>[]
 | g,e :: r=>g ++ e.1 ++ (if e.2.1 then [10] ++ oP [] r else oP [10] r)
def kV:List Line -> Nat
 | []=>0
 | e :: r=>e.1.length + 1 + kV r
theorem Ph:∀ (a b:List Line),kV (a ++ b) = kV a + kV b
 | [],b=>by simp [kV]
 | e :: a,b=>by simp only [List.cons_append,kV,Ph a b]; omega
theorem Yk:∀ (l:List Line),kV l <= (joinL l).length + l.length
 | []=>by simp [kV]
 | e :: r=>by
  have:=Yk r
  simp only [kV,joinL,List.flatMap_cons,List.length_append,yU,List.length_cons] at *
  omega
theorem Ms:∀ (l:List Line),yE l -> oP [] l = joinL l
 | [],_=>rfl
 | e :: r,⟨h1,h2⟩=>by
  have ih:=Ms r h2
  simp only [oP,joinL,List.flatMap_cons,yU,List.nil_append] at *
  cases he:e.2.1 with
  | true=>simp [ih]
  | false =>
   rcases h1 with h1 | h1
   ·subst h1; simp [oP]
   ·rw [he] at h1; cases h1
theorem zSd {n:Nat} {s:List UInt8} {a:List UInt8} (h:a.length + s.length <= 1000000):bQ n (s,aN a,()) = some ((s.length:Int),false,aN (a ++ s),()):=by
 unfold bQ pE
 simp only [gU]
 rw [bV (by simp only [zCz]; simp [room]; omega),Ry]
theorem zRf {n:Nat} {l:List Line} (hl:l.length <= 1000) (hs:kV l <= 10000):∀ (r pre:List Line) (g a:List UInt8) (m:Nat),l = pre ++ r -> r.length < m -> a.length + g.length <= kV pre ->
  fix (jG n) m (g,l,(l.length:Int),(pre.length:Int),aN a,()) = some (a ++ oP g r):=by
 intro r
 induction r with
 | nil =>
  intro pre g a m hp hm ha
  have hp:pre = l:=by simpa using hp.symm
  subst hp
  rw [eH (by omega),jG]
  simp only
  rw [bW (by simp),zFg]
  simp [oP]
 | cons e r ih =>
  intro pre g a m hp hm ha
  have hm':r.length + 1 < m:=hm
  have hlen:l.length = pre.length + r.length + 1:=by rw [hp]; simp; omega
  have hsum:kV l = kV pre + (e.1.length + 1 + kV r):=by rw [hp,Ph]; rfl
  have hsp:kV (pre ++ [e]) = kV pre + (e.1.length + 1):=by rw [Ph]; simp [kV]
  have hi:∀ (g' a':List UInt8),a'.length + g'.length <= kV (pre ++ [e]) -> fix (jG n) (m - 1) (g',l,(l.length:Int),(pre.length:Int) + 1,aN a',()) = some (a' ++ oP g' r):=fun g' a' h1=>by
   have:=ih (pre ++ [e]) g' a' (m - 1) (by rw [hp]; simp) (by omega) h1
   rwa [show ((pre ++ [e]).length:Int) = (pre.length:Int) + 1 by simp] at this
  rw [eH (by omega),jG]
  simp only
  rw [dU (decide_eq_true (by omega)),bV (zPj (by omega)),Yb hp,bV (decide_eq_true (by simp [dM]; omega)),zSd (by simp; omega)]
  simp only [gU]
  cases he:e.2.1 with
  | true =>
   simp only [zWb]
   rw [zSd (by simp; omega)]
   simp only [gU]
   rw [nP (by omega) (by omega),hi _ _ (by simp; omega)]
   simp [oP,he]
  | false =>
   simp only [zIi]
   rw [nP (by omega) (by omega),hi _ _ (by simp; omega)]
   simp [oP,he]
end Go.Dec
namespace Go.Dec
def sZ (e:Line):Line:=(e.1,true,())
def mD:List Line -> List Line
 | []=>[]
 | [e]=>[e]
 | e :: f :: r=>sZ e :: mD (f :: r)
theorem zEd:∀ (l:List Line),(mD l).length = l.length
 | []=>rfl
 | [_]=>rfl
 | e :: f :: r=>by simp only [mD,List.length_cons,zEd (f :: r)]
theorem zGs:∀ (l:List Line),yE (mD l)
 | []=>trivial
 | [_]=>⟨.inl rfl,trivial⟩
 | e :: f :: r=>⟨.inr rfl,zGs (f :: r)⟩
theorem Jq:∀ (l:List Line),yE l -> mD l = l
 | [],_=>rfl
 | [_],_=>rfl
 | e :: f :: r,⟨h,h2⟩=>by
  have:e.2.1 = true:=by simpa using h
  simp only [mD,Jq (f :: r) h2,sZ]
  rw [<- this]
theorem zEe:∀ (a b:List Line),b ≠ [] -> mD (a ++ b) = a.map sZ ++ mD b
 | [],b,_=>rfl
 | [e],b,h=>by
  cases b with
  | nil=>exact absurd rfl h
  | cons f r=>rfl
 | e :: f :: r,b,h=>by
  have:=zEe (f :: r) b h
  simp only [List.cons_append,mD,List.map_cons] at this ⊢
  rw [this]
theorem zGt {n:Nat} (st:Int):∀ (rest pre:List Line) (e:Line) (k:Int) (m:Nat),k = ((pre.length + rest.length:Nat):Int) -> pre.length + rest.length <= 2000 -> rest.length < m ->
  fix (eZ n) m (st,k,(pre.length:Int),pre ++ e :: rest,()) = some (pre ++ mD (e :: rest),st)
 | [],pre,e,k,m,hk,hl,hm=>by
  have hk:k = (pre.length:Int):=by simpa using hk
  rw [eH (by omega),eZ]
  simp only
  rw [bW (decide_eq_false (by omega))]
  rfl
 | f :: r,pre,e,k,m,hk,hl,hm=>by
  have hm:r.length + 1 < m:=by simpa using hm
  have hl:pre.length + (r.length + 1) <= 2000:=by simpa using hl
  have hk:k = ((pre.length + (r.length + 1):Nat):Int):=by simpa using hk
  have hL:(pre ++ e :: f :: r).length = pre.length + r.length + 2:=by simp; omega
  rw [eH (by omega),eZ]
  simp only
  rw [dU (decide_eq_true (by omega)),bV (by rw [zPj (by omega)]; simp),bV (decide_eq_true (by rw [hL]; omega)),nP (by omega) (by omega)]
  have h2:(pre ++ e :: f :: r).set (0 + ((pre.length:Nat):Int).toNat) (((pre ++ e :: f :: r).getD (0 + ((pre.length:Nat):Int).toNat) (Ty.dflt aS)).1,(true,())) = (pre ++ [sZ e]) ++ f :: r:=by
   rw [show 0 + ((pre.length:Nat):Int).toNat = pre.length by simp]
   simp [sZ,List.getD_eq_getElem?_getD]
  rw [h2]
  have:=zGt (n:=n) st r (pre ++ [sZ e]) f k (m - 1) (by simp; omega) (by simp; omega) (by omega)
  rw [show (((pre ++ [sZ e]).length:Nat):Int) = (pre.length:Int) + 1 by simp] at this
  rw [this]
  simp [mD]
theorem Yl {n:Nat} {l:List Line} (hl:l.length <= 1000) (hn:1500 <= n) (st:Int) :
  fix (eZ n) n (st,(if IntKind.wrap .i64 (((l.length:Nat):Int) - 1) > 0 then IntKind.wrap .i64 (((l.length:Nat):Int) - 1) else 0),0,l,()) = some (mD l,st):=by
 cases l with
 | nil =>
  rw [nP (by simp) (by simp),if_neg (by simp),eH (by omega),eZ]
  simp only
  rw [bW (decide_eq_false (by omega))]
  rfl
 | cons e r =>
  have hl:r.length + 1 <= 1000:=by simpa using hl
  rw [nP (by simp <;> omega) (by simp <;> omega)]
  have h1:(((e :: r).length:Nat):Int) - 1 = (r.length:Int):=by simp
  rw [h1]
  have h2:(if (r.length:Int) > 0 then (r.length:Int) else 0) = (r.length:Int):=by split <;> omega
  rw [h2]
  exact zGt st r [] e _ n (by simp) (by simp; omega) (by omega)
abbrev Fe (a b:List UInt8):List lK:=[([102],a,()),([103],b,())]
theorem zNo {n:Nat} (hn:3 <= n) (a b:List UInt8):jY n (Fe a b,[102]) = some (a,true):=by
 obtain ⟨m,rfl⟩:∃ m,n = m + 3:=⟨n - 3,by omega⟩
 rfl
theorem zNp {n:Nat} (hn:3 <= n) (a b:List UInt8):jY n (Fe a b,[103]) = some (b,true):=by
 obtain ⟨m,rfl⟩:∃ m,n = m + 3:=⟨n - 3,by omega⟩
 rfl
theorem zZc {n:Nat} (hn:3 <= n) (a b:List UInt8):jY n (Fe a b,[110,111,110,101]) = some ([],false):=by
 obtain ⟨m,rfl⟩:∃ m,n = m + 3:=⟨n - 3,by omega⟩
 rfl
theorem zUo {n:Nat} (hn:1500 <= n) {a b:List UInt8} (ha:a.length <= 100) (hb:b.length <= 100) (q:Bool) (s:List UInt8) :
  iU n ((jM [],q,[[102],[103]],false,()),s,Fe a b) = some (mD (aH a ++ aH b),0):=by
 have h1:=iQ a []
 have h2:=iQ b []
 unfold iU
 simp only
 rw [zIi,bW (by rfl),eH (by omega),cO]
 simp only
 rw [dU (by rfl),bV (by rfl),show bL (Ty.dflt .str) [[102],[103]] 0 = [102] from rfl,zNo (by omega),gU,bW (by rfl),uV (by simp only; omega),gU,bV (by simp [room,aH]; omega),nP (by omega) (by omega),eH (by omega),cO]
 simp only
 rw [dU (by rfl),bV (by rfl),show bL (Ty.dflt .str) [[102],[103]] (0 + 1) = [103] from rfl,zNp (by omega),gU,bW (by rfl),uV (by simp only; omega),gU,bV (by simp [room,aH]; omega),nP (by omega) (by omega),eH (by omega),cO]
 simp only
 rw [bW (by rfl)]
 exact Yl (l:=[] ++ aH a ++ aH b) (by simp [aH]; omega) hn 0
theorem zUp {n:Nat} (hn:1500 <= n) {a b:List UInt8} (ha:a.length <= 100) (hb:b.length <= 100) (q:Bool) (s:List UInt8) :
  iU n ((jM [],q,[[102],[110,111,110,101],[103]],false,()),s,Fe a b) = some (mD (aH a ++ aH b),2):=by
 have h1:=iQ a []
 have h2:=iQ b []
 unfold iU
 simp only
 rw [zIi,bW (by rfl),eH (by omega),cO]
 simp only
 rw [dU (by rfl),bV (by rfl),show bL (Ty.dflt .str) [[102],[110,111,110,101],[103]] 0 = [102] from rfl,zNo (by omega),gU,bW (by rfl),uV (by simp only; omega),gU,bV (by simp [room,aH]; omega),nP (by omega) (by omega),eH (by omega),cO]
 simp only
 rw [dU (by rfl),bV (by rfl),show bL (Ty.dflt .str) [[102],[110,111,110,101],[103]] (0 + 1) = [110,111,110,101] from rfl,zZc (by omega),gU,dU (by rfl),uV (by simp),gU,bV (by simp [room,aH,bZ]; omega),nP (by omega) (by omega),eH (by omega),cO]
 simp only
 rw [dU (by rfl),bV (by rfl),show bL (Ty.dflt .str) [[102],[110,111,110,101],[103]] (0 + 1 + 1) = [103] from rfl,zNp (by omega),gU,bW (by rfl),uV (by simp only; omega),gU,bV (by simp [room,aH,bZ]; omega),nP (by omega) (by omega),eH (by omega),cO]
 simp only
 rw [bW (by rfl)]
 have:=Yl (n:=n) (l:=[] ++ aH a ++ aH [] ++ aH b) (by simp [aH,bZ]; omega) hn 2
 rw [this,Dj]
 simp
theorem zRg {n:Nat} (hn:1500 <= n) {L:List Line} (h:yE L) (hl:L.length <= 1000) (hs:kV L <= 10000):bM n L = some (joinL L):=by
 unfold bM
 have:=zRf (n:=n) (l:=L) hl hs L [] [] [] n rfl (by omega) (by simp [kV])
 rw [Ms L h] at this
 exact this
theorem Jr:∀ (r w:List UInt8),joinL ((bZ w r).map sZ) = if r = [] then (if w = [] then [] else w ++ [10]) else if r.getLast? = some 10 then w ++ r else w ++ r ++ [10]
 | [],w=>by cases w <;> simp [bZ,joinL,yU,sZ]
 | c :: r,w=>by
  unfold bZ
  split
  ·rename_i h
   have:=Jr r []
   simp only [List.map_cons,joinL,List.flatMap_cons] at this ⊢
   rw [this]
   subst h
   cases r with
   | nil=>simp [yU,sZ]
   | cons d r =>
    simp only [yU,sZ,List.getLast?_cons_cons]
    simp
    split <;> simp
  ·rename_i h
   rw [Jr r (w ++ [c])]
   cases r with
   | nil=>simp [h]
   | cons d r =>
    simp only [List.getLast?_cons_cons]
    simp
def two (a b:List UInt8):List UInt8:=(if a ≠ [] ∧ b ≠ [] ∧ a.getLast? ≠ some 10 then a ++ [10] else a) ++ b
theorem zNq {b:List UInt8} (h:b ≠ []):aH b ≠ []:=by rw [Di h]; simp
theorem zEf (a b:List UInt8):joinL (mD (aH a ++ aH b)) = two a b:=by
 unfold two
 by_cases hb:b = []
 ·subst hb
  rw [Dj,List.append_nil,Jq (aH a) (pF a []),xP]
  simp
 ·rw [zEe _ _ (zNq hb),Jq (aH b) (pF b [])]
  have h1:joinL ((aH a).map sZ ++ aH b) = joinL ((aH a).map sZ) ++ joinL (aH b):=by simp [joinL]
  rw [h1,xP,aH,Jr a []]
  by_cases ha:a = []
  ·subst ha; simp
  ·by_cases hc:a.getLast? = some 10
   ·simp [ha,hb,hc]
   ·simp [ha,hb,hc]
end Go.Dec
namespace Go.Dec
theorem zNr {n:Nat} (hn:0 < n) (N:Int) (l:Line) (last:Bool) (t:List lK) :
  mX n ((false,([],([],()))),false,(1,(0,(N,(0,((-1),(l.1,([],(l.2.1,(last,(false,([],([],())))))))))))),t) = some ((0,(0,(N,(0,((-1),(l.1,([],(l.2.1,(last,(false,([],([],())))))))))))),t,[l]):=by
 cases n with
 | zero=>omega
 | succ n=>rfl
theorem run_go {n:Nat} (hn:0 < n) (st:Int) (fs:List (List UInt8)) (t:List lK):∀ (ls:List Line) (l:Line) (N steps:Int) (row:List Line) (last:Bool) (m:Nat),
  2 * ls.length + 3 < m -> 0 <= steps -> steps + 1 + ls.length <= 1000 -> row.length + ls.length <= 2000 ->
  fix (eX n) m (t,1000,ls,st,false,[],[],false,fs,false,[],0,steps,1,0,N,0,(-1),l.1,[],l.2.1,last,false,[],[],row,()) =
   some ((row ++ (l :: ls),(t,(st,(steps + 1 + ls.length,())))),0):=by
 intro ls
 induction ls with
 | nil =>
  intro l N steps row last m hm h0 h1 h2
  have hm:3 < m:=by simpa using hm
  have h1:steps + 1 <= 1000:=by simpa using h1
  have h2:row.length <= 2000:=by simpa using h2
  rw [eH (by omega),eX]
  simp only
  rw [bW (by rfl),bW (by rfl),bW (decide_eq_false (by omega)),zNr hn,gU,bV (by simp [room]; omega),nP (by omega) (by omega)]
  rw [eH (by omega),eX]
  simp only
  rw [bW (by rfl),dU (by rfl),dU (by rfl),show ∀ N:Int,jZ n (0,(0,(N,(0,((-1),(l.1,([],(l.2.1,(last,(false,([],([],())))))))))))) = some (4,(0,(N,(0,((-1),(l.1,([],(l.2.1,(last,(false,([],([],())))))))))))) from fun _=>rfl,gU]
  rw [eH (by omega),eX]
  simp only
  rw [dU (by rfl),dU (by rfl)]
  simp
 | cons e ls ih =>
  intro l N steps row last m hm h0 h1 h2
  have hm:2 * (ls.length + 1) + 3 < m:=by simpa using hm
  have h1:steps + 1 + (ls.length + 1) <= 1000:=by simpa using h1
  have h2:row.length + (ls.length + 1) <= 2000:=by simpa using h2
  rw [eH (by omega),eX]
  simp only
  rw [bW (by rfl),bW (by rfl),bW (decide_eq_false (by omega)),zNr hn,gU,bV (by simp [room]; omega),nP (by omega) (by omega)]
  rw [eH (by omega),eX]
  simp only
  rw [bW (by rfl),dU (by rfl),bW (by simp <;> omega),bV (zIj (by omega) (by simp <;> omega)),show bL (Ty.dflt aS) (e :: ls) 0 = e from rfl,
   show ∀ (N:Int) (b:Bool),kX n ((0,(0,(N,(0,((-1),(l.1,([],(l.2.1,(last,(false,([],([],())))))))))))),e,b) = some (1,(0,(IntKind.wrap .i64 (N + 1),(0,((-1),(e.1,([],(e.2.1,(b,(false,([],([],())))))))))))) from fun _ _=>rfl,gU,bV (by simp <;> omega),
   show (e :: ls).drop (1:Int).toNat = ls from rfl]
  rw [ih e _ _ _ _ _ (by omega) (by omega) (by omega) (by simp <;> omega)]
  have:(((e :: ls).length:Nat):Int) = (ls.length:Int) + 1:=by simp
  rw [this,show steps + 1 + 1 + (ls.length:Int) = steps + 1 + ((ls.length:Int) + 1) by omega]
  simp
theorem run_eq {n:Nat} (hn:1500 <= n) {fs:List (List UInt8)} {s:List UInt8} {t:List lK} {L:List Line} {st:Int}
  (hB:iT n ((jM [],false,fs,false,()),t) = some t) (hL:iU n ((jM [],false,fs,false,()),s,t) = some (L,st)) (hl:L.length <= 401) :
  qM n (((false,([],([],()))),(false,(fs,(false,())))),s,t,1000) = some ((L,(t,(st,((L.length:Int),())))),0):=by
 unfold qM
 simp only
 rw [bW (by rfl)]
 simp only [jM] at hB hL
 rw [hB,gU,hL,gU,show Et n (false,([],([],()))) = some (0,(0,(0,(0,((-1),([],([],(false,(false,(false,([],([],())))))))))))) from rfl,gU,bW (by rfl),dU (by rfl)]
 cases L with
 | nil =>
  rw [dU (by rfl),show jZ n (0,(0,(0,(0,((-1),([],([],(false,(false,(false,([],([],())))))))))))) = some (4,(0,(0,(0,((-1),([],([],(false,(false,(false,([],([],())))))))))))) from rfl,gU,eH (by omega),zH]
  simp only
  rw [dU (by rfl),dU (by rfl)]
  rfl
 | cons e ls =>
  have hl:ls.length + 1 <= 401:=by simpa using hl
  simp only
  rw [bW (by simp <;> omega),bV (zIj (by omega) (by simp <;> omega)),show bL (Ty.dflt aS) (e :: ls) 0 = e from rfl,
   show ∀ (b:Bool),kX n ((0,(0,(0,(0,((-1),([],([],(false,(false,(false,([],([],())))))))))))),e,b) = some (1,(0,(IntKind.wrap .i64 (0 + 1),(0,((-1),(e.1,([],(e.2.1,(b,(false,([],([],())))))))))))) from fun _=>rfl,gU,bV (by simp <;> omega),
   show (e :: ls).drop (1:Int).toNat = ls from rfl]
  rw [run_go (by omega) st fs t ls e _ 0 [] _ n (by omega) (by omega) (by omega) (by simp <;> omega)]
  have:(((e :: ls).length:Nat):Int) = 0 + 1 + (ls.length:Int):=by simp; omega
  rw [this,List.nil_append]
theorem zUq (n:Nat) (a b:List UInt8):iT n ((jM [],false,[[102],[103]],false,()),Fe a b) = some (Fe a b):=by
 unfold iT orF zDg
 rw [if_pos ⟨rfl,rfl,.inr (.inr (.inl ⟨rfl,rfl⟩))⟩]
theorem zUr (n:Nat) (a b:List UInt8):iT n ((jM [],false,[[102],[110,111,110,101],[103]],false,()),Fe a b) = some (Fe a b):=by
 unfold iT orF zDg
 rw [if_pos ⟨rfl,rfl,.inr (.inr (.inr ⟨rfl,rfl⟩))⟩]
theorem zGu {a b : List UInt8} (ha : a.length <= 100) (hb : b.length <= 100) (L : List Line) (st : Int) (no : Bool) (hs : br ((st == 2) == no) (br no (some true) (some (st == 0))) (some false) = some true)
    (hB : bM 2000 L = some (two a b)) :
     br (!(a == [])) (
      br (!(b == [])) (
       chk (inB (IntKind.wrap .i64 ((a.length : Int) - 1)) a.length) (
        br (((bL 0 a (IntKind.wrap .i64 ((a.length : Int) - 1))).toNat : Int) != 10) (
         chk (decide (a.length + ([10] : List UInt8).length <= dM)) (
          br ((0 : Int) == 0) (
           ob (bM 2000 L) fun y8 =>
           chk (decide ((a ++ [10]).length + b.length <= dM)) (
            br (y8 == ((a ++ [10]) ++ b)) (
             br ((st == 2) == no) (
              br no (
               some true) (
               some (st == 0))) (
              some false)) (
             some false))) (
           some false))) (
         br ((0 : Int) == 0) (
          ob (bM 2000 L) fun y9 =>
          chk (decide (a.length + b.length <= dM)) (
           br (y9 == (a ++ b)) (
            br ((st == 2) == no) (
             br no (
              some true) (
              some (st == 0))) (
             some false)) (
            some false))) (
          some false)))) (
       br ((0 : Int) == 0) (
        ob (bM 2000 L) fun y10 =>
        chk (decide (a.length + b.length <= dM)) (
         br (y10 == (a ++ b)) (
          br ((st == 2) == no) (
           br no (
            some true) (
            some (st == 0))) (
           some false)) (
          some false))) (
        some false))) (
      br ((0 : Int) == 0) (
       ob (bM 2000 L) fun y11 =>
       chk (decide (a.length + b.length <= dM)) (
        br (y11 == (a ++ b)) (
         br ((st == 2) == no) (
          br no (
           some true) (
           some (st == 0))) (
          some false)) (
         some false))) (
       some false)) = some true := by
  have hz : ((0 : Int) == 0) = true := rfl
  rw [hB]
  simp only [gU, dU hz]
  have hm : ∀ k : Nat, k <= 300 -> decide (k <= dM) = true := fun k hk => decide_eq_true (by unfold dM; omega)
  by_cases h1 : a = []
  · subst h1
    rw [bW (by rfl), bV (hm _ (by simp; omega)), dU (by simp [two]), hs]
  · rw [dU (by simpa using h1)]
    by_cases h2 : b = []
    · subst h2
      rw [bW (by rfl), bV (hm _ (by simp; omega)), dU (by simp [two]), hs]
    · rw [dU (by simpa using h2)]
      rcases List.eq_nil_or_concat a with h0 | ⟨p, c, h0⟩
      · exact absurd h0 h1
      · have hl : a.length = p.length + 1 := by rw [h0]; simp
        have hi : IntKind.wrap .i64 ((a.length : Int) - 1) = (p.length : Int) := by rw [nP (by omega) (by omega)]; omega
        have h0' : a = p ++ c :: [] := by simpa using h0
        have hg : a.getLast? = some c := by rw [h0]; simp
        rw [hi, bV (zPj (by omega)), Yb h0']
        by_cases hc : c = 10
        · have : (((c.toNat : Nat) : Int) != 10) = false := by subst hc; rfl
          rw [bW this, bV (hm _ (by omega)), dU (by simp [two, hg, hc]), hs]
        · have : (((c.toNat : Nat) : Int) != 10) = true := by
            have h3 : c.toNat ≠ 10 := fun h => hc (UInt8.toNat_inj.1 h)
            simp; omega
          rw [dU this, bV (hm _ (by simp; omega)), bV (hm _ (by simp; omega)), dU (by simp [two, hg, hc, h1, h2]), hs]
theorem zK (x:List UInt8 × List UInt8 × Bool):pW 2000 x = some true:=by
 obtain ⟨a,b,no⟩:=x
 unfold pW
 simp only
 by_cases h1:decide ((a.length:Int) > 100) = true
 ·rw [dU h1]; rfl
 ·rw [bW (by simpa using h1)]
  have h1:¬ (a.length:Int) > 100:=by simpa using h1
  by_cases h2:decide ((b.length:Int) > 100) = true
  ·rw [dU h2]; rfl
  ·rw [bW (by simpa using h2)]
   have h2:¬ (b.length:Int) > 100:=by simpa using h2
   have l1:=iQ a []
   have l2:=iQ b []
   have hL:(mD (aH a ++ aH b)).length <= 202:=by rw [zEd]; simp only [aH,List.length_append]; omega
   have hS:=Yk (mD (aH a ++ aH b))
   rw [zEf] at hS
   have hT:(two a b).length <= 201:=by unfold two; split <;> simp <;> omega
   have hB:bM 2000 (mD (aH a ++ aH b)) = some (two a b):=by
    rw [zRg (by omega) (zGs _) (by omega) (by omega),zEf]
   rw [show shown16 2000 () = some true from rfl,gU,bW (b:=!true) rfl]
   cases no with
   | true =>
    rw [zWb,run_eq (by omega) (zUr _ a b) (zUp (by omega) (by omega) (by omega) false _) (by omega),gU]
    exact zGu (by omega) (by omega) _ 2 true rfl hB
   | false =>
    rw [zIi,run_eq (by omega) (zUq _ a b) (zUo (by omega) (by omega) (by omega) false _) (by omega),gU]
    exact zGu (by omega) (by omega) _ 0 false rfl hB
end Go.Dec
