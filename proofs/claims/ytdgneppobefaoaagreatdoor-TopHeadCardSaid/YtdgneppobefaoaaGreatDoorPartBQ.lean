/- Part of a proof over this seat: a library of my own, and what it says of this seat. No statement is proved here. -/
import Derived.Test.YtdgneppobefaoaaGreatDoorPartBO
import Derived.Test.YtdgneppobefaoaaGreatDoorPartBP
namespace Go.Dec
open Go.Proofs Go.Ce
theorem yRn (a:Bool):lS Tryz.E 63 bK bR 20000 [a] (kM 6,[])=some ([zU 6],0,0):=by cases a <;> kernel_rfl
theorem yRo (a:Bool):lS Tryz.E 63 bK bR 20000 [a] (kM 7,[])=some ([zU 7],0,0):=by cases a <;> kernel_rfl
theorem yRp (a:Bool):lS Tryz.E 63 bK bR 20000 [a] (kM 8,[])=some ([zU 8],0,0):=by cases a <;> kernel_rfl
theorem yRq (a:Bool):lS Tryz.E 63 bK bR 20000 [a] (kM 9,[])=some ([zU 9],0,0):=by cases a <;> kernel_rfl
end Go.Dec
namespace Go.Dec
open Go.Proofs Go.Ce
theorem yUi (a:Bool):∀ k,is9 k->lS Tryz.E 63 bK bR 20000 [a] (mM k,[])=some ([zT k],0,0):=nine (yQz a) (yRa a) (yRb a) (yRc a) (yRd a) (yRe a) (yRf a) (yRg a) (yRh a)
theorem yUj (a:Bool):∀ k,is9 k->lS Tryz.E 63 bK bR 20000 [a] (kM k,[])=some ([zU k],0,0):=nine (yRi a) (yRj a) (yRk a) (yRl a) (yRm a) (yRn a) (yRo a) (yRp a) (yRq a)
theorem Zf (n:Nat):Pure Tryz.prog 63 bK bR (jH n):=by
 refine Jk Tryz.E_ok (by kernel_rfl) fun (x:List UInt8 × List Ws) y hxy bs hbs=>?_
 unfold jH at hxy
 split at hxy
 ·rename_i hh
  obtain ⟨hk,hx⟩:=hh
  generalize (x.1.getD 4 0).toNat - 48=k at *
  subst hx
  simp only [aA] at hxy
  subst hxy
  obtain ⟨a,rfl⟩:=len1 (hbs.trans (show Sk bK (mM k,[])=1 by kernel_rfl))
  exact ⟨20000,yUi a k hk⟩
 split at hxy
 ·rename_i hh
  obtain ⟨hk,hx⟩:=hh
  generalize (x.1.getD 5 0).toNat - 48=k at *
  subst hx
  simp only [aA] at hxy
  subst hxy
  obtain ⟨a,rfl⟩:=len1 (hbs.trans (show Sk bK (kM k,[])=1 by kernel_rfl))
  exact ⟨20000,yUj a k hk⟩
 ·cases hxy
def all2 (p:List Bool->Bool):Nat->List Bool->Bool
 | 0,bs=>p bs
 | n+1,bs=>all2 p n (false :: bs) && all2 p n (true :: bs)
theorem Mj {p:List Bool->Bool}:∀ {n:Nat} {bs:List Bool},all2 p n bs=true->∀ cs:List Bool,cs.length=n->p (cs.reverse++bs)=true
 | 0,bs,h,cs,hc=>by
  obtain rfl:=List.length_eq_zero_iff.1 hc
  exact h
 | n+1,bs,h,c :: cs,hc=>by
  simp only [all2,aG] at h
  have hc':cs.length=n:=by simpa using hc
  rw [List.reverse_cons,List.append_assoc]
  cases c
  ·exact Mj h.1 cs hc'
  ·exact Mj h.2 cs hc'
def zYt (x:Option (List Ws)):Bool:=match x with | some []=>true | _=>false
theorem yHd {x:Option (List Ws)} (h:zYt x=true):x=some []:=by
 match x,h with
 | some [],_=>rfl
theorem zYu (k:Nat):all2 (fun bs=>zYt (lS Tryz.E 159 xW xX 2000 bs (zT k,[]))) 4 []=true:=by kernel_rfl
theorem zYv {p:List Bool->Bool} {n:Nat} (h:∀ a b c,all2 p n [a,b,c]=true):all2 p (n+3) []=true:=by
 simp only [all2,h,Bool.and_self]
noncomputable abbrev Sm (k:Nat) (bs:List Bool):Bool:=zYt (lS Tryz.E 159 xW xX 2000 bs (zU k,[]))
theorem yLd (k:Nat):all2 (Sm k) 5 [false,false,false]=true:=by kernel_rfl
theorem yLe (k:Nat):all2 (Sm k) 5 [false,false,true]=true:=by kernel_rfl
theorem yLf (k:Nat):all2 (Sm k) 5 [false,true,false]=true:=by kernel_rfl
theorem yLg (k:Nat):all2 (Sm k) 5 [false,true,true]=true:=by kernel_rfl
theorem yLh (k:Nat):all2 (Sm k) 5 [true,false,false]=true:=by kernel_rfl
theorem yLi (k:Nat):all2 (Sm k) 5 [true,false,true]=true:=by kernel_rfl
theorem yLj (k:Nat):all2 (Sm k) 5 [true,true,false]=true:=by kernel_rfl
theorem yLk (k:Nat):all2 (Sm k) 5 [true,true,true]=true:=by kernel_rfl
theorem zYw (k:Nat):all2 (Sm k) 8 []=true :=
 zYv fun a b c=>match a,b,c with
  | false,false,false=>yLd k
  | false,false,true=>yLe k
  | false,true,false=>yLf k
  | false,true,true=>yLg k
  | true,false,false=>yLh k
  | true,false,true=>yLi k
  | true,true,false=>yLj k
  | true,true,true=>yLk k
theorem Zg (n:Nat):Pure Tryz.prog 159 xW xX (nH n):=by
 refine Jk Tryz.E_ok (by kernel_rfl) fun (x:eX × List Ws) y hxy bs hbs=>?_
 unfold nH at hxy
 split at hxy
 ·rename_i hh
  obtain ⟨k,_,rfl | rfl⟩:=hh
  all_goals
   simp only [aA] at hxy
   subst hxy
   refine ⟨2000,yHd ?_⟩
  ·have h:=Mj (zYu k) bs.reverse (by rw [List.length_reverse]; exact hbs.trans (by kernel_rfl))
   rwa [List.reverse_reverse,List.append_nil] at h
  ·have h:=Mj (zYw k) bs.reverse (by rw [List.length_reverse]; exact hbs.trans (by kernel_rfl))
   rwa [List.reverse_reverse,List.append_nil] at h
 ·cases hxy
end Go.Dec
