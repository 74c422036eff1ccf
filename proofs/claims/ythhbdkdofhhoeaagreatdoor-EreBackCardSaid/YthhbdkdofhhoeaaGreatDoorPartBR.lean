/- Part of a proof over this seat: a library of my own, and what it says of this seat. No statement is proved here. -/
import Derived.Test.YthhbdkdofhhoeaaGreatDoorPartBN
import Derived.Test.YthhbdkdofhhoeaaGreatDoorPartBQ
import Derived.Test.YthhbdkdofhhoeaaGreatDoorPartBP
namespace Go.Dec
def Jr (c:UInt8):List UInt8:=bif c==10 then [92,110] else bif mP.contains c then [92,c] else [c]
def uI (p:Nat->Bool):List UInt8 :=
 match bB p with
 | [c]=>Jr c
 | _=>pG p
def Ak (lo hi:Int):List UInt8 :=bif hi == -1&&lo==0 then [42] else bif hi == -1&&lo==1 then [43] else bif hi==1&&lo==0 then [63] else bif hi == -1 then [123]++bX lo++[44,125] else bif hi==lo then [123]++bX lo++[125] else [123]++bX lo++[44]++bX hi++[125]
def bE:Pt->List UInt8 | .empty=>[] | .bytes p=>uI p | .bol=>[94] | .eol=>[36] | .cat a b=>bE a++bE b | .alt a b=>bE a++[124]++bE b | .times a lo hi=>bE a++Ak lo hi | .group a _=>[40]++bE a++[41] | .ref m=>[92]++bX m
theorem zWu (p:Nat->Bool):(uI p).length<=270:=by
 have h:=zWt p;unfold uI;split
 ·unfold Jr;rename_i c _;cases c==10<;>cases mP.contains c<;>simp
 ·exact h
theorem zCk (lo hi:Int):(Ak lo hi).length<=60:=by
 have h1:=@nC lo;have h2:=@nC hi;unfold Ak;cases hi==-1&&lo==0<;>cases hi==-1&&lo==1<;>cases hi==1&&lo==0<;>cases hi==-1<;>cases hi==lo<;>simp<;>omega
theorem gV:∀ t:Pt,(bE t).length<=300*t.sz
 | .empty|.bol|.eol=>by simp [bE,Pt.sz]
 | .bytes p=>by have:=zWu p;simp [bE,Pt.sz];omega
 | .cat a b=>by have:=gV a;have:=gV b;simp [bE,Pt.sz];omega
 | .alt a b=>by have:=gV a;have:=gV b;simp [bE,Pt.sz];omega
 | .times a lo hi=>by have:=gV a;have:=zCk lo hi;simp [bE,Pt.sz];omega
 | .group a _=>by have:=gV a;simp [bE,Pt.sz];omega
 | .ref m=>by have:=@nC (m:Int);simp [bE,Pt.sz];omega
section
variable {n:Nat}{l:List Nd}{p:Nat->Bool}
theorem zHl:((List.range 256).all fun i=>Go.Lib.contains mP [UInt8.ofNat i]==mP.contains (UInt8.ofNat i))=true:=by decide +kernel
theorem zOi (hn:400<=n):Ic n (wd p)=some (uI p):=by
 unfold Ic;simp only;rw [Iq,aP,zOh hn];unfold uI pG;match bB p with
 | []=>rfl
 | [c] =>
  rw [aF (by rfl)];unfold Jr Pf;simp only [aP];by_cases h10:c=10
  ·subst h10;rfl
  ·have e:(c==10)=false:=by simpa using h10
   rw [aF (by simpa using h10),e];simp only [cond_false];have hi:=nK zHl c.toNat_lt;rw [Cx,beq_iff_eq] at hi;unfold strings_Contains;simp only;have hi':Go.Lib.contains [46,91,92,40,41,42,43,63,123,125,124,94,36] [c]=mP.contains c:=hi;rw [aC (by rfl),hi',aP,aC (by simp [aH])];cases mP.contains c<;>rfl
 | a::b::l =>
  rw [aN (by simp;omega)];rfl
theorem zWv {lo hi:Int}{a b c:Int}{w:List Int}(h1:-1<=lo) (h2:lo<1000000) (h3:-1<=hi) (h4:hi<1000000):Du n (c,w,a,b,lo,hi,0,())=some (Ak lo hi):=by
 unfold Du Ak;simp only;have l1:=@nC lo;have l2:=@nC hi;rw [Gp h1 h2,aP,Gp h3 h4,aP];have hA:chk (decide ([123].length+(bX lo).length<=aH)) (chk (decide (([123]++bX lo).length+([44,125]:List UInt8).length<=aH)) (some (([123]++bX lo)++[44,125])))=some ([123]++bX lo++[44,125]):=by
  rw [aC (by simp [aH];omega),aC (by simp [aH];omega)]
 have hB:chk (decide ([123].length+(bX lo).length<=aH)) (chk (decide (([123]++bX lo).length+([125]:List UInt8).length<=aH)) (some (([123]++bX lo)++[125])))=some ([123]++bX lo++[125]):=by
  rw [aC (by simp [aH];omega),aC (by simp [aH];omega)]
 have hC:chk (decide ([123].length+(bX lo).length<=aH)) (chk (decide (([123]++bX lo).length+([44]:List UInt8).length<=aH)) (chk (decide ((([123]++bX lo)++[44]).length+(bX hi).length<=aH)) (chk (decide (((([123]++bX lo)++[44])++bX hi).length+([125]:List UInt8).length<=aH)) (some (((([123]++bX lo)++[44])++bX hi)++[125])))))=some ([123]++bX lo++[44]++bX hi++[125]):=by
  rw [aC (by simp [aH];omega),aC (by simp [aH];omega),aC (by simp [aH];omega),aC (by simp [aH];omega)]
 rw [hA,hB,hC];cases hi==-1<;>cases lo==0<;>cases lo==1<;>cases hi==1<;>cases hi==lo<;>rfl
end
end Go.Dec
namespace Go.Dec
section
variable {n:Nat}{l:List Nd}
def zMw (row:List (List UInt8)) (o:Nat):Pt->Prop | .cat a b=>row.getD (o+a.sz - 1) [] = bE a ∧ row.getD (o+a.sz+b.sz - 1) [] = bE b | .alt a b=>row.getD (o+a.sz - 1) [] = bE a ∧ row.getD (o+a.sz+b.sz - 1) [] = bE b | .times a _ _=>row.getD (o+a.sz - 1) [] = bE a | .group a _=>row.getD (o+a.sz - 1) [] = bE a | _=>True
theorem zOj {t : Pt} {o k m : Nat} {row : List (List UInt8)} (h : At l o t) (hl : l.length < 1000000) (hm : t.sz < m) (hk : k + 1 = t.sz) (hr : row.length = l.length) (hn : 400 <= n) (hf : bY t = true) (hsz : t.sz <= 1000)
    (hc : zMw row o t) :
    ∃ row' : List (List UInt8), fix (dO n) (m - k) (l, l, (l.length : Int), ((o + k : Nat) : Int), row, ()) = fix (dO n) (m - t.sz) (l, l, (l.length : Int), ((o + t.sz : Nat) : Int), row', ()) ∧ row'.length = row.length ∧ (∀ j, j ≠ o + k -> row'.getD j [] = row.getD j []) ∧ (t.kind ≠ 0 -> row'.getD (o + k) [] = bE t) ∧ (t.kind = 0 -> row'.getD (o + k) [] = row.getD (o + k) []) := by
  have hlen := h.len;have hnd := h.node;rw [show o + t.sz - 1 = o + k by omega] at hnd;have hi : o + k < l.length := by omega
  have hir : o + k < row.length := by omega
  have hget : ∀ d, bJ d l ((o + k : Nat) : Int) = (t.nv o).node := by
    intro d;rw [kT hi];rw [List.getElem?_eq_getElem hi] at hnd;exact Option.some.inj hnd
  have hw : IntKind.wrap .i64 (((o + k : Nat) : Int) + 1) = ((o + t.sz : Nat) : Int) := by rw [dJ (by omega) (by omega)]; omega
  have hpl := gV t;have hput : ∀ x : List UInt8, chk ((inB ((o + k : Nat) : Int) row.length && decide (0 + row.length <= row.length))) (
          chk (decide (0 + ((o + k : Nat) : Int).toNat < row.length)) (
            fix (dO n) (m - k - 1) (l, l, (l.length : Int), IntKind.wrap .i64 (((o + k : Nat) : Int) + 1), row.set (0 + ((o + k : Nat) : Int).toNat) x, ()))) = fix (dO n) (m - t.sz) (l, l, (l.length : Int), ((o + t.sz : Nat) : Int), row.set (o + k) x, ()) := by
    intro x;rw [aC (yAh hir), Int.toNat_natCast, Nat.zero_add, aC (by simp; omega), hw, show m - k - 1 = m - t.sz by omega]
  have fin : ∀ x : List UInt8, x = bE t -> t.kind ≠ 0 -> ∃ row' : List (List UInt8), fix (dO n) (m - t.sz) (l, l, (l.length : Int), ((o + t.sz : Nat) : Int), row.set (o + k) x, ()) = fix (dO n) (m - t.sz) (l, l, (l.length : Int), ((o + t.sz : Nat) : Int), row', ()) ∧ row'.length = row.length ∧ (∀ j, j ≠ o + k -> row'.getD j [] = row.getD j []) ∧ (t.kind ≠ 0 -> row'.getD (o + k) [] = bE t) ∧ (t.kind = 0 -> row'.getD (o + k) [] = row.getD (o + k) []) := by
    intro x hx hk0;exact ⟨_, rfl, by simp, fun j hj => zEo (by omega), fun _ => by rw [zHk hir, hx], fun h0 => absurd h0 hk0⟩
  have hrd : ∀ (x : Int) (j : Nat), x = (j : Int) -> j < row.length -> (inB x row.length && decide (0 + row.length <= row.length)) = true ∧ 0 + x.toNat < row.length ∧ row.getD (0 + x.toNat) (Ty.dflt .str) = row.getD j [] := by
    intro x j hx hj;subst hx;exact ⟨yAh hj, by omega, by rw [Int.toNat_natCast, Nat.zero_add]; rfl⟩
  rw [cZ (by omega), dO];simp only;rw [aN (by simp; omega), aC (mK hi), hget];unfold zMw at hc;cases t with
  | empty =>
    simp only [Pt.nv, NV.node];rw [aF (by rfl), aF (by rfl), aF (by rfl), aF (by rfl), aF (by rfl), aF (by rfl), aF (by rfl), aF (by rfl), hw, show m - k - 1 = m - Pt.empty.sz by omega];exact ⟨row, rfl, rfl, fun _ _ => rfl, fun h => absurd rfl h, fun _ => rfl⟩
  | bytes p =>
    simp only [Pt.nv, NV.node];rw [aN (by rfl), zOi hn, aP, hput];exact fin _ rfl (by simp [Pt.kind])
  | bol =>
    simp only [Pt.nv, NV.node];rw [aF (by rfl), aN (by rfl), hput];exact fin _ rfl (by simp [Pt.kind])
  | eol =>
    simp only [Pt.nv, NV.node];rw [aF (by rfl), aF (by rfl), aN (by rfl), hput];exact fin _ rfl (by simp [Pt.kind])
  | cat a b =>
    simp only [Pt.nv, NV.node];have pa := a.gF;have pb := b.gF;have la := gV a;have lb := gV b;simp only [Pt.sz] at hlen hk hsz;have ta : a.top o = ((o + a.sz - 1 : Nat) : Int) := by unfold Pt.top; omega
    have tb : b.top (o + a.sz) = ((o + a.sz + b.sz - 1 : Nat) : Int) := by unfold Pt.top; omega
    obtain ⟨a1, a2, a3⟩ := hrd _ _ ta (by omega);obtain ⟨b1, b2, b3⟩ := hrd _ _ tb (by omega);rw [hc.1] at a3;rw [hc.2] at b3;rw [aF (by rfl), aF (by rfl), aF (by rfl), aN (by rfl), aC a1, aC (by exact decide_eq_true a2), aC b1, aC (by exact decide_eq_true b2), aC (by exact decide_eq_true (by rw [a3, b3]; unfold aH; omega)), hput];exact fin _ (by rw [a3, b3]; rfl) (by simp [Pt.kind])
  | alt a b =>
    simp only [Pt.nv, NV.node];have pa := a.gF;have pb := b.gF;have la := gV a;have lb := gV b;simp only [Pt.sz] at hlen hk hsz;have ta : a.top o = ((o + a.sz - 1 : Nat) : Int) := by unfold Pt.top; omega
    have tb : b.top (o + a.sz) = ((o + a.sz + b.sz - 1 : Nat) : Int) := by unfold Pt.top; omega
    obtain ⟨a1, a2, a3⟩ := hrd _ _ ta (by omega);obtain ⟨b1, b2, b3⟩ := hrd _ _ tb (by omega);rw [hc.1] at a3;rw [hc.2] at b3;rw [aF (by rfl), aF (by rfl), aF (by rfl), aF (by rfl), aN (by rfl), aC a1, aC (by exact decide_eq_true a2), aC (by exact decide_eq_true (by rw [a3]; simp only [List.length_cons, List.length_nil]; unfold aH; omega)), aC b1, aC (by exact decide_eq_true b2), aC (by exact decide_eq_true (by rw [a3, b3]; simp only [List.length_append, List.length_cons, List.length_nil]; unfold aH; omega)), hput];exact fin _ (by rw [a3, b3]; rfl) (by simp [Pt.kind])
  | times a lo hi =>
    simp only [Pt.nv, NV.node];have pa := a.gF;have la := gV a;have lc := zCk lo hi;simp only [Pt.sz] at hlen hk hsz;simp only [bY, kQ, aD, Bool.or_eq_true, decide_eq_true_eq] at hf;have ta : a.top o = ((o + a.sz - 1 : Nat) : Int) := by unfold Pt.top; omega
    obtain ⟨a1, a2, a3⟩ := hrd _ _ ta (by omega);rw [hc] at a3;rw [aF (by rfl), aF (by rfl), aF (by rfl), aF (by rfl), aF (by rfl), aN (by rfl), aC a1, aC (by exact decide_eq_true a2), zWv (by omega) (by omega) (by omega) (by omega), aP, aC (by exact decide_eq_true (by rw [a3]; unfold aH; omega)), hput];exact fin _ (by rw [a3]; rfl) (by simp [Pt.kind])
  | group a q =>
    simp only [Pt.nv, NV.node];have pa := a.gF;have la := gV a;simp only [Pt.sz] at hlen hk hsz;have ta : a.top o = ((o + a.sz - 1 : Nat) : Int) := by unfold Pt.top; omega
    obtain ⟨a1, a2, a3⟩ := hrd _ _ ta (by omega);rw [hc] at a3;rw [aF (by rfl), aF (by rfl), aF (by rfl), aF (by rfl), aF (by rfl), aF (by rfl), aN (by rfl), aC a1, aC (by exact decide_eq_true a2), aC (by exact decide_eq_true (by rw [a3]; simp only [List.length_cons, List.length_nil]; unfold aH; omega)), aC (by exact decide_eq_true (by rw [a3]; simp only [List.length_append, List.length_cons, List.length_nil]; unfold aH; omega)), hput];exact fin _ (by rw [a3]; rfl) (by simp [Pt.kind])
  | ref q =>
    simp only [Pt.nv, NV.node];simp only [bY, aD, decide_eq_true_eq] at hf;have li := @nC (q : Int);rw [aF (by rfl), aF (by rfl), aF (by rfl), aF (by rfl), aF (by rfl), aF (by rfl), aF (by rfl), aN (by rfl), Gp (by omega) (by omega), aP, aC (by simp [aH]; omega), hput];exact fin _ rfl (by simp [Pt.kind])
theorem zOk (hl:l.length<=1000) (hn:2000<=n):∀ (t:Pt) (o m:Nat) (row:List (List UInt8)),At l o t->bY t=true->t.sz<m->row.length=l.length->(∀ j,o<=j->row.getD j []=[]) ->
  ∃ row':List (List UInt8),fix (dO n) m (l,l,(l.length:Int),(o:Int),row,())=fix (dO n) (m-t.sz) (l,l,(l.length:Int),((o+t.sz:Nat):Int),row',())∧row'.length=row.length∧(∀ j,j<o->row'.getD j []=row.getD j [])∧(∀ j,o+t.sz<=j->row'.getD j []=[])∧row'.getD (o+t.sz-1) []=bE t:=by
 have fin:∀ (t:Pt) (o k m:Nat) (row:List (List UInt8)),At l o t->bY t=true->t.sz<m->k+1=t.sz->row.length=l.length->(∀ j,o+k<=j->row.getD j []=[]) ->
   zMw row o t ->
   ∃ row':List (List UInt8),fix (dO n) (m-k) (l,l,(l.length:Int),((o+k:Nat):Int),row,())=fix (dO n) (m-t.sz) (l,l,(l.length:Int),((o+t.sz:Nat):Int),row',())∧row'.length=row.length∧(∀ j,j<o+k->row'.getD j []=row.getD j [])∧(∀ j,o+t.sz<=j->row'.getD j []=[])∧row'.getD (o+t.sz-1) []=bE t:=by
  intro t o k m row h hf hm hk hr hz hc;have hlen:=h.len;obtain ⟨row',e1,e2,e3,e4,e5⟩:=zOj (n:=n) h (by omega) hm hk hr (by omega) hf (by omega) hc;refine ⟨row',e1,e2,fun j hj=>e3 j (by omega),fun j hj=>by rw [e3 j (by omega)];exact hz j (by omega),?_⟩;rw [show o+t.sz-1=o+k by omega];by_cases h0:t.kind=0
  ·rw [e5 h0,hz _ (aQ _)];cases t<;>simp [Pt.kind] at h0
   rfl
  ·exact e4 h0
 have leaf:∀ t:Pt,t.sz=1->(match t with
   | .cat a b=>False
   | .alt a b=>False
   | .times a _ _=>False
   | .group a _=>False
   | _=>True)->∀ (o m:Nat) (row:List (List UInt8)),At l o t->bY t=true->t.sz<m->row.length=l.length->(∀ j,o<=j->row.getD j []=[]) ->
   ∃ row':List (List UInt8),fix (dO n) m (l,l,(l.length:Int),(o:Int),row,())=fix (dO n) (m-t.sz) (l,l,(l.length:Int),((o+t.sz:Nat):Int),row',())∧row'.length=row.length∧(∀ j,j<o->row'.getD j []=row.getD j [])∧(∀ j,o+t.sz<=j->row'.getD j []=[])∧row'.getD (o+t.sz-1) []=bE t:=by
  intro t h1 hk o m row h hf hm hr hz;have:=fin t o 0 m row h hf hm (by omega) hr hz (by cases t<;>first|exact hk.elim|trivial);simpa using this
 intro t;induction t with
 | empty=>exact leaf .empty rfl trivial
 | bytes p=>exact leaf (.bytes p) rfl trivial
 | bol=>exact leaf .bol rfl trivial
 | eol=>exact leaf .eol rfl trivial
 | ref k=>exact leaf (.ref k) rfl trivial
 | cat a b iha ihb =>
  intro o m row h hf hm hr hz;have hfa:=hf;simp only [bY,aD] at hfa;have hsz:(Pt.cat a b).sz=a.sz+b.sz+1:=rfl;have pa:=a.gF;have pb:=b.gF;obtain ⟨r1,e1,e2,e3,e4,e5⟩:=iha o m row h.zEc.1 hfa.1 (by omega) hr hz;obtain ⟨r2,f1,f2,f3,f4,f5⟩:=ihb (o+a.sz) (m-a.sz) r1 h.zEc.2 hfa.2 (by omega) (by omega) e4;have:=fin (.cat a b) o (a.sz+b.sz) m r2 h hf hm (by omega) (by omega) (fun j hj=>f4 j (by omega)) ⟨by rw [f3 _ (by omega)];exact e5,f5⟩;obtain ⟨r3,g1,g2,g3,g4,g5⟩:=this;refine ⟨r3,?_,by omega,fun j hj=>by rw [g3 j (by omega),f3 j (by omega),e3 j hj],g4,g5⟩;rw [e1,f1,<- g1,Nat.sub_sub,Nat.add_assoc]
 | alt a b iha ihb =>
  intro o m row h hf hm hr hz;have hfa:=hf;simp only [bY,aD] at hfa;have hsz:(Pt.alt a b).sz=a.sz+b.sz+1:=rfl;have pa:=a.gF;have pb:=b.gF;obtain ⟨r1,e1,e2,e3,e4,e5⟩:=iha o m row h.alt1.1 hfa.1 (by omega) hr hz;obtain ⟨r2,f1,f2,f3,f4,f5⟩:=ihb (o+a.sz) (m-a.sz) r1 h.alt1.2 hfa.2 (by omega) (by omega) e4;have:=fin (.alt a b) o (a.sz+b.sz) m r2 h hf hm (by omega) (by omega) (fun j hj=>f4 j (by omega)) ⟨by rw [f3 _ (by omega)];exact e5,f5⟩;obtain ⟨r3,g1,g2,g3,g4,g5⟩:=this;refine ⟨r3,?_,by omega,fun j hj=>by rw [g3 j (by omega),f3 j (by omega),e3 j hj],g4,g5⟩;rw [e1,f1,<- g1,Nat.sub_sub,Nat.add_assoc]
 | times a lo hi iha =>
  intro o m row h hf hm hr hz;have hfa:=hf;simp only [bY,aD] at hfa;have hsz:(Pt.times a lo hi).sz=a.sz+1:=rfl;have pa:=a.gF;obtain ⟨r1,e1,e2,e3,e4,e5⟩:=iha o m row h.zLl hfa.1 (by omega) hr hz;obtain ⟨r3,g1,g2,g3,g4,g5⟩:=fin (.times a lo hi) o a.sz m r1 h hf hm (by omega) (by omega) (fun j hj=>e4 j (by omega)) e5;exact ⟨r3,by rw [e1,<- g1],by omega,fun j hj=>by rw [g3 j (by omega),e3 j hj],g4,g5⟩
 | group a k iha =>
  intro o m row h hf hm hr hz;have hfa:=hf;simp only [bY,aD] at hfa;have hsz:(Pt.group a k).sz=a.sz+1:=rfl;have pa:=a.gF;obtain ⟨r1,e1,e2,e3,e4,e5⟩:=iha o m row h.zLm hfa.1 (by omega) hr hz;obtain ⟨r3,g1,g2,g3,g4,g5⟩:=fin (.group a k) o a.sz m r1 h hf hm (by omega) (by omega) (fun j hj=>e4 j (by omega)) e5;exact ⟨r3,by rw [e1,<- g1],by omega,fun j hj=>by rw [g3 j (by omega),e3 j hj],g4,g5⟩
def Vr (t:Pt):List UInt8 × Int :=
 match lF (bE t) with
 | .inr _=>([],1)
 | .inl u=>bif dH u==dH t then (bE t,0) else ([],1)
theorem zCl {s:List UInt8}{e k:Nat}(h:lF s=.inr (e,k)):e≠0:=by
 rcases Ku s with ⟨t,hp,_⟩|⟨e',k',hp,he,_⟩
 ·rw [h] at hp;cases hp
 ·rw [h] at hp;simp only [Sum.inr.injEq,aB] at hp;obtain ⟨rfl,rfl⟩:=hp;rcases he with he|he
  ·have:=he.1;omega
  ·omega
theorem vF {s:List UInt8}{t:Pt}(h:lF s=.inl t):xR t:=by
 rcases Ku s with ⟨u,hp,hg,_⟩|⟨e',k',hp,_⟩
 ·rw [h] at hp;simp only [Sum.inl.injEq] at hp;subst hp;exact hg
 ·rw [h] at hp;cases hp
theorem Uj {t:Pt}(hn:200000<=n) (h:xR t):rT n (t.enc 0)=some (Vr t):=by
 unfold rT;simp only;rw [zPm (by omega) h];simp only [aP,Bool.not_true,bU];have hsz:=h.1;have htp:=t.gF;have hlen:=t.dA 0;rw [aC (by rw [hlen];simp [room];omega),Int.toNat_natCast];obtain ⟨row',e1,e2,_,_,e5⟩:=zOk (n:=n) (l:=t.enc 0) (by omega) (by omega) t 0 n (List.replicate (t.enc 0).length []) (At.self t) h.2.1.1 (by omega) (by simp) (fun j _=>by
  rw [List.getD_eq_getElem?_getD,List.getElem?_replicate];split<;>rfl)
 rw [show ((0:Nat):Int)=0 from rfl] at e1;rw [e1,cZ (by omega),dO];simp only;rw [List.length_replicate] at e2;have hv:IntKind.wrap .i64 (((t.enc 0).length:Int)-1)=((0+t.sz-1:Nat):Int):=by rw [dJ (by omega) (by omega)];omega
 rw [aF (by rw [hlen];simp),hv,aC (yAh (by omega)),Int.toNat_natCast,Nat.zero_add,aC (by simp;omega),show Ty.dflt .str=([]:List UInt8) from rfl];rw [show 0+t.sz-1=t.sz-1 by omega] at e5 ⊢;rw [e5];have hpl:=gV t;rw [Ip (by omega) (by omega),aP];unfold Vr;cases hp:lF (bE t) with
 | inr x =>
  obtain ⟨e,k⟩:=x;have:=zCl hp;simp only [Ij];rw [aN (by simp;omega)]
 | inl u =>
  simp only [Ij];rw [aF (by rfl),Ai (by omega) (vF hp),aP,Ai (by omega) h,aP];cases dH u==dH t<;>rfl
end
end Go.Dec
