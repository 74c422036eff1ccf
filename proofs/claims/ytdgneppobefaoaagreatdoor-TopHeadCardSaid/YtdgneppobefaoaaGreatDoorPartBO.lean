/- Part of a proof over this seat: a library of my own, and what it says of this seat. No statement is proved here. -/
import Derived.Test.YtdgneppobefaoaaGreatDoorPartBJ
import Derived.Test.YtdgneppobefaoaaGreatDoorPartBI
import Derived.Test.YtdgneppobefaoaaGreatDoorPartAX
import Derived.KernelRfl
namespace Go.Dec
abbrev oD:Type:=Int × List Int × Int × Int × Int × Int × Int × Unit
abbrev yI:Type:=Int × Int × Int × Unit
abbrev kD:Type:=(yI × yI × Bool × Unit) × Int × List UInt8 × List UInt8 × Int × Int × Int × List (List UInt8 × Int × Unit) × Bool × Bool × Unit
abbrev zBy:Type:=Bool × List (List oD × Bool × Unit) × List kD × Unit
abbrev eX:Type:=zBy × Bool × List (List UInt8) × Bool × Unit
abbrev Ws:Type:=List UInt8 × List UInt8 × Unit
def orF {α β:Type} (F G:α->Option β) (x:α):Option β:=match F x with | some y=>some y | none=>G x
def zHm (a b:yI) (not:Bool) (op n to:Int):kD:=((a,b,not,()),op,[],[],n,to,-1,[],false,false,())
abbrev noA:yI:=(0,0,0,())
def yOv (quiet:Bool) (cs:List kD):eX:=((false,[],cs,()),quiet,[],false,())
abbrev bH (k:Int):yI:=(1,k,0,())
abbrev dB:yI:=(2,0,0,())
def mM (k:Nat):List UInt8:=[115,101,100,32,48+UInt8.ofNat k,113]
def zT (k:Nat):eX:=yOv false [zHm (bH k) noA false 113 0 0]
def kM (k:Nat):List UInt8:=[115,101,100,32,39,48+UInt8.ofNat k,44,36,33,123,112,59,100,125,59,48+UInt8.ofNat k,33,100,39]
def zU (k:Nat):eX:=yOv false [zHm (bH k) dB true 123 0 3,zHm noA noA false 112 0 0,zHm noA noA false 100 0 0,zHm noA noA false 125 0 0,zHm (bH k) noA true 100 0 0]
def is9 (k:Nat):Prop:=1 <= k∧k <= 9
abbrev Wt:Type:=(yI × yI × Bool × Unit) × (Bool × Int × Unit) × (Int × Bool × List Bool × Unit)
section
open Classical
noncomputable def yUb (x:Wt):Option (Bool × (Bool × Int × Unit)) :=
 if x.1=(noA,noA,false,())∧x.2.1=(false,0,())∧x.2.2.2.2.1=[] then some (true,(false,0,())) else none
noncomputable def yUc (x:Wt):Option (Bool × (Bool × Int × Unit)) :=
 if (∃ k,is9 k∧∃ not,x.1=(bH k,noA,not,()))∧x.2.1=(false,0,())∧x.2.2.2.2.1=[] then some (xor (decide (x.2.2.1=x.1.1.2.1)) x.1.2.2.1,(false,0,())) else none
noncomputable def yUd (x:Wt):Option (Bool × (Bool × Int × Unit)) :=
 if (∃ k,is9 k∧x.1=(bH k,dB,true,()))∧x.2.1=(false,0,())∧x.2.2.2.2.1=[] then some (!decide (x.2.2.1=x.1.1.2.1),(decide (x.2.2.1=x.1.1.2.1) && !x.2.2.2.1,0,())) else none
noncomputable def yUe (x:Wt):Option (Bool × (Bool × Int × Unit)) :=
 if (∃ k,is9 k∧x.1=(bH k,dB,true,()))∧x.2.1=(true,0,())∧x.2.2.2.2.1=[] then some (false,(!x.2.2.2.1,0,())) else none
noncomputable def kE (_n:Nat):Wt->Option (Bool × (Bool × Int × Unit)):=orF yUb (orF yUc (orF yUd yUe))
noncomputable def jH (_n:Nat) (x:List UInt8 × List Ws):Option (List eX × Int × Int) :=
 if is9 ((x.1.getD 4 0).toNat - 48)∧x=(mM ((x.1.getD 4 0).toNat - 48),[]) then some ([zT ((x.1.getD 4 0).toNat - 48)],0,0) else
 if is9 ((x.1.getD 5 0).toNat - 48)∧x=(kM ((x.1.getD 5 0).toNat - 48),[]) then some ([zU ((x.1.getD 5 0).toNat - 48)],0,0) else none
noncomputable def nH (_n:Nat) (x:eX × List Ws):Option (List Ws) :=
 if ∃ k,is9 k∧(x=(zT k,[])∨x=(zU k,[])) then some [] else none
end
end Go.Dec
namespace Go.Dec
open Go.Proofs Go.Ce
abbrev yUf:Ty:=.pair (.int .i64) (.pair (.arr 4 (.int .u64)) (.pair (.int .i64) (.pair (.int .i64) (.pair (.int .i64) (.pair (.int .i64) (.pair (.int .i64) .unit))))))
abbrev AddT:Ty:=.pair (.int .i64) (.pair (.int .i64) (.pair (.int .i64) .unit))
abbrev yUg:Ty:=.pair (.pair AddT (.pair AddT (.pair .bool .unit))) (.pair (.int .u8) (.pair .str (.pair .str (.pair (.int .i64) (.pair (.int .i64) (.pair (.int .i64) (.pair (.slice (.pair .str (.pair (.int .i64) .unit))) (.pair .bool (.pair .bool .unit)))))))))
abbrev yUh:Ty:=.pair .bool (.pair (.slice (.pair (.slice yUf) (.pair .bool .unit))) (.pair (.slice yUg) .unit))
abbrev yOw:Ty:=.pair yUh (.pair .bool (.pair (.slice .str) (.pair .bool .unit)))
abbrev yGd:Ty:=.pair .str (.pair .str .unit)
abbrev xW:List Ty:=[yOw,.slice yGd]
abbrev xX:List Ty:=[.slice yGd]
abbrev bK:List Ty:=[.str,.slice yGd]
abbrev bR:List Ty:=[.slice yOw,.int .i64,.int .i64]
abbrev Dx:List Ty:=[(.pair AddT (.pair AddT (.pair .bool .unit))),(.pair .bool (.pair (.int .i64) .unit)),(.pair (.int .i64) (.pair .bool (.pair (.slice .bool) .unit)))]
abbrev Mi:List Ty:=[.bool,(.pair .bool (.pair (.int .i64) .unit))]
theorem pure_or {P:Program} {f:FuncId} {ps rs:List Ty} {F G:bW ps->Option (bW rs)} (h:Pure P f ps rs F) (h':Pure P f ps rs G):Pure P f ps rs (orF F G) :=
 ⟨h.1,fun x y e=>by
  unfold orF at e
  cases hF:F x with
  | some z=>rw [hF] at e; exact h.2 x y (hF.trans e)
  | none=>rw [hF] at e; exact h'.2 x y e⟩
theorem len1 {bs:List Bool} (h:bs.length=1):∃ a,bs=[a]:=by
 match bs,h with
 | [a],_=>exact ⟨a,rfl⟩
theorem nine {p:Nat->Prop} (h1:p 1) (h2:p 2) (h3:p 3) (h4:p 4) (h5:p 5) (h6:p 6) (h7:p 7) (h8:p 8) (h9:p 9):∀ k,is9 k->p k
 | 0,h=>absurd h.1 (by omega)
 | 1,_=>h1
 | 2,_=>h2
 | 3,_=>h3
 | 4,_=>h4
 | 5,_=>h5
 | 6,_=>h6
 | 7,_=>h7
 | 8,_=>h8
 | 9,_=>h9
 | k+10,h=>absurd h.2 (by omega)
noncomputable abbrev runK (bs:List Bool) (x:Wt):Option (Bool × (Bool × Int × Unit)):=lS Tryz.E 248 Dx Mi 2000 bs x
theorem yGe (r:yI × yI × Bool × Unit) (s:Bool × Int × Unit) (l:Bool) (N:Int):Sk Dx (r,s,(N,l,[],()))=1:=by kernel_rfl
theorem yGf (l a:Bool) (N:Int):runK [a] ((noA,noA,false,()),(false,0,()),(N,l,[],()))=some (true,(false,0,())):=by
 cases a <;> kernel_rfl
theorem yCb {q:Int->Prop} (k:Nat) (h:∀ j:Nat,j < k->q (.ofNat j)) (h0:q (.ofNat k)) (h1:∀ m:Nat,q (.ofNat (m+(k+1)))) (h2:∀ m,q (.negSucc m)):∀ N:Int,q N
 | .negSucc m=>h2 m
 | .ofNat m=>by
  rcases Nat.lt_trichotomy m k with h3 | h3 | h3
  ·exact h m h3
  ·rw [h3]; exact h0
  ·have:=h1 (m - (k+1))
   rwa [show m - (k+1)+(k+1)=m by omega] at this
def both (p:Bool->Bool->Bool):Bool:=p false false && p false true && p true false && p true true
theorem zBz {p:Bool->Bool->Bool} (h:both p=true):∀ a l,p a l=true:=by
 simp only [both,aG] at h
 obtain ⟨⟨⟨h1,h2⟩,h3⟩,h4⟩:=h
 intro a l
 cases a <;> cases l <;> assumption
def below (p:Nat->Bool):Nat->Bool
 | 0=>true
 | k+1=>p k && below p k
theorem Wu {p:Nat->Bool}:∀ {k:Nat},below p k=true->∀ j,j < k->p j=true
 | k+1,h,j,hj=>by
  simp only [below,aG] at h
  rcases bG j k with h1 | h1
  ·exact Wu h.2 j h1
  ·rw [show j=k by omega]; exact h.1
theorem yGg (l:Bool):both (fun a not=>below (fun j=>decide (runK [a] ((bH (1:Nat),noA,not,()),(false,0,()),(.ofNat j,l,[],()))=some (not,(false,0,())))) 1)=true:=by kernel_rfl
theorem yGh (l:Bool):both (fun a not=>below (fun j=>decide (runK [a] ((bH (2:Nat),noA,not,()),(false,0,()),(.ofNat j,l,[],()))=some (not,(false,0,())))) 2)=true:=by kernel_rfl
theorem yGi (l:Bool):both (fun a not=>below (fun j=>decide (runK [a] ((bH (3:Nat),noA,not,()),(false,0,()),(.ofNat j,l,[],()))=some (not,(false,0,())))) 3)=true:=by kernel_rfl
theorem yGj (l:Bool):both (fun a not=>below (fun j=>decide (runK [a] ((bH (4:Nat),noA,not,()),(false,0,()),(.ofNat j,l,[],()))=some (not,(false,0,())))) 4)=true:=by kernel_rfl
theorem yGk (l:Bool):both (fun a not=>below (fun j=>decide (runK [a] ((bH (5:Nat),noA,not,()),(false,0,()),(.ofNat j,l,[],()))=some (not,(false,0,())))) 5)=true:=by kernel_rfl
theorem yGl (l:Bool):both (fun a not=>below (fun j=>decide (runK [a] ((bH (6:Nat),noA,not,()),(false,0,()),(.ofNat j,l,[],()))=some (not,(false,0,())))) 6)=true:=by kernel_rfl
theorem yGm (l:Bool):both (fun a not=>below (fun j=>decide (runK [a] ((bH (7:Nat),noA,not,()),(false,0,()),(.ofNat j,l,[],()))=some (not,(false,0,())))) 7)=true:=by kernel_rfl
theorem yGn (l:Bool):both (fun a not=>below (fun j=>decide (runK [a] ((bH (8:Nat),noA,not,()),(false,0,()),(.ofNat j,l,[],()))=some (not,(false,0,())))) 8)=true:=by kernel_rfl
theorem yGo (l:Bool):both (fun a not=>below (fun j=>decide (runK [a] ((bH (9:Nat),noA,not,()),(false,0,()),(.ofNat j,l,[],()))=some (not,(false,0,())))) 9)=true:=by kernel_rfl
theorem yKx:∀ k,is9 k->∀ a l not,∀ j,j < k->runK [a] ((bH k,noA,not,()),(false,0,()),(.ofNat j,l,[],()))=some (not,(false,0,())):=by
 have h:∀ k,is9 k->∀ l,both (fun a not=>below (fun j=>decide (runK [a] ((bH k,noA,not,()),(false,0,()),(.ofNat j,l,[],()))=some (not,(false,0,())))) k)=true :=
  nine yGg yGh yGi yGj yGk yGl yGm yGn yGo
 intro k hk a l not j hj
 exact of_decide_eq_true (Wu (zBz (h k hk l) a not) j hj)
theorem yKy:∀ k,is9 k->∀ a l not,runK [a] ((bH k,noA,not,()),(false,0,()),(.ofNat k,l,[],()))=some (!not,(false,0,())) :=
 nine (by intro a l not; cases a <;> cases not <;> kernel_rfl) (by intro a l not; cases a <;> cases not <;> kernel_rfl) (by intro a l not; cases a <;> cases not <;> kernel_rfl) (by intro a l not; cases a <;> cases not <;> kernel_rfl) (by intro a l not; cases a <;> cases not <;> kernel_rfl) (by intro a l not; cases a <;> cases not <;> kernel_rfl) (by intro a l not; cases a <;> cases not <;> kernel_rfl) (by intro a l not; cases a <;> cases not <;> kernel_rfl) (by intro a l not; cases a <;> cases not <;> kernel_rfl)
theorem yKz:∀ k,is9 k->∀ a l not m,runK [a] ((bH k,noA,not,()),(false,0,()),(.ofNat (m+(k+1)),l,[],()))=some (not,(false,0,())) :=
 nine (by intro a l not m; cases a <;> cases not <;> kernel_rfl) (by intro a l not m; cases a <;> cases not <;> kernel_rfl) (by intro a l not m; cases a <;> cases not <;> kernel_rfl) (by intro a l not m; cases a <;> cases not <;> kernel_rfl) (by intro a l not m; cases a <;> cases not <;> kernel_rfl) (by intro a l not m; cases a <;> cases not <;> kernel_rfl) (by intro a l not m; cases a <;> cases not <;> kernel_rfl) (by intro a l not m; cases a <;> cases not <;> kernel_rfl) (by intro a l not m; cases a <;> cases not <;> kernel_rfl)
theorem yGp:∀ k,is9 k->∀ a l not m,runK [a] ((bH k,noA,not,()),(false,0,()),(.negSucc m,l,[],()))=some (not,(false,0,())) :=
 nine (by intro a l not m; cases a <;> cases not <;> kernel_rfl) (by intro a l not m; cases a <;> cases not <;> kernel_rfl) (by intro a l not m; cases a <;> cases not <;> kernel_rfl) (by intro a l not m; cases a <;> cases not <;> kernel_rfl) (by intro a l not m; cases a <;> cases not <;> kernel_rfl) (by intro a l not m; cases a <;> cases not <;> kernel_rfl) (by intro a l not m; cases a <;> cases not <;> kernel_rfl) (by intro a l not m; cases a <;> cases not <;> kernel_rfl) (by intro a l not m; cases a <;> cases not <;> kernel_rfl)
theorem yGq {k:Nat} (hk:is9 k) (a l not:Bool) (N:Int):runK [a] ((bH k,noA,not,()),(false,0,()),(N,l,[],()))=some (xor (decide (N=k)) not,(false,0,())):=by
 refine yCb (q:=fun N=>runK [a] ((bH k,noA,not,()),(false,0,()),(N,l,[],()))=some (xor (decide (N=k)) not,(false,0,()))) k (fun j hj=>?_) ?_ (fun m=>?_) (fun m=>?_) N
 ·rw [yKx k hk a l not j hj,decide_eq_false (by simp only [Int.ofNat_eq_natCast]; omega),Bool.false_xor]
 ·rw [yKy k hk a l not,decide_eq_true (by rfl),Bool.true_xor]
 ·rw [yKz k hk a l not m,decide_eq_false (by simp only [Int.ofNat_eq_natCast]; omega),Bool.false_xor]
 ·rw [yGp k hk a l not m,decide_eq_false (by omega),Bool.false_xor]
theorem yGr (l:Bool):both (fun a _=>below (fun j=>decide (runK [a] ((bH (1:Nat),dB,true,()),(false,0,()),(.ofNat j,l,[],()))=some (true,(false,0,())))) 1)=true:=by kernel_rfl
theorem yGs (l:Bool):both (fun a _=>below (fun j=>decide (runK [a] ((bH (2:Nat),dB,true,()),(false,0,()),(.ofNat j,l,[],()))=some (true,(false,0,())))) 2)=true:=by kernel_rfl
theorem yGt (l:Bool):both (fun a _=>below (fun j=>decide (runK [a] ((bH (3:Nat),dB,true,()),(false,0,()),(.ofNat j,l,[],()))=some (true,(false,0,())))) 3)=true:=by kernel_rfl
theorem yGu (l:Bool):both (fun a _=>below (fun j=>decide (runK [a] ((bH (4:Nat),dB,true,()),(false,0,()),(.ofNat j,l,[],()))=some (true,(false,0,())))) 4)=true:=by kernel_rfl
theorem yGv (l:Bool):both (fun a _=>below (fun j=>decide (runK [a] ((bH (5:Nat),dB,true,()),(false,0,()),(.ofNat j,l,[],()))=some (true,(false,0,())))) 5)=true:=by kernel_rfl
theorem yGw (l:Bool):both (fun a _=>below (fun j=>decide (runK [a] ((bH (6:Nat),dB,true,()),(false,0,()),(.ofNat j,l,[],()))=some (true,(false,0,())))) 6)=true:=by kernel_rfl
theorem yGx (l:Bool):both (fun a _=>below (fun j=>decide (runK [a] ((bH (7:Nat),dB,true,()),(false,0,()),(.ofNat j,l,[],()))=some (true,(false,0,())))) 7)=true:=by kernel_rfl
theorem yGy (l:Bool):both (fun a _=>below (fun j=>decide (runK [a] ((bH (8:Nat),dB,true,()),(false,0,()),(.ofNat j,l,[],()))=some (true,(false,0,())))) 8)=true:=by kernel_rfl
theorem yGz (l:Bool):both (fun a _=>below (fun j=>decide (runK [a] ((bH (9:Nat),dB,true,()),(false,0,()),(.ofNat j,l,[],()))=some (true,(false,0,())))) 9)=true:=by kernel_rfl
theorem yLa:∀ k,is9 k->∀ a l,∀ j,j < k->runK [a] ((bH k,dB,true,()),(false,0,()),(.ofNat j,l,[],()))=some (true,(false,0,())):=by
 have h:∀ k,is9 k->∀ l,both (fun a _=>below (fun j=>decide (runK [a] ((bH k,dB,true,()),(false,0,()),(.ofNat j,l,[],()))=some (true,(false,0,())))) k)=true :=
  nine yGr yGs yGt yGu yGv yGw yGx yGy yGz
 intro k hk a l j hj
 exact of_decide_eq_true (Wu (zBz (h k hk l) a false) j hj)
theorem yLb:∀ k,is9 k->∀ a l,runK [a] ((bH k,dB,true,()),(false,0,()),(.ofNat k,l,[],()))=some (false,(!l,0,())):=by
 have h:∀ k,is9 k->(both fun a l=>decide (runK [a] ((bH k,dB,true,()),(false,0,()),(.ofNat k,l,[],()))=some (false,(!l,0,()))))=true :=
  nine (by kernel_rfl) (by kernel_rfl) (by kernel_rfl) (by kernel_rfl) (by kernel_rfl) (by kernel_rfl) (by kernel_rfl) (by kernel_rfl) (by kernel_rfl)
 intro k hk a l
 exact of_decide_eq_true (zBz (h k hk) a l)
theorem yLc:∀ k,is9 k->∀ a l m,runK [a] ((bH k,dB,true,()),(false,0,()),(.ofNat (m+(k+1)),l,[],()))=some (true,(false,0,())) :=
 nine (by intro a l m; cases a <;> kernel_rfl) (by intro a l m; cases a <;> kernel_rfl) (by intro a l m; cases a <;> kernel_rfl) (by intro a l m; cases a <;> kernel_rfl) (by intro a l m; cases a <;> kernel_rfl) (by intro a l m; cases a <;> kernel_rfl) (by intro a l m; cases a <;> kernel_rfl) (by intro a l m; cases a <;> kernel_rfl) (by intro a l m; cases a <;> kernel_rfl)
theorem yHa:∀ k,is9 k->∀ a l m,runK [a] ((bH k,dB,true,()),(false,0,()),(.negSucc m,l,[],()))=some (true,(false,0,())) :=
 nine (by intro a l m; cases a <;> kernel_rfl) (by intro a l m; cases a <;> kernel_rfl) (by intro a l m; cases a <;> kernel_rfl) (by intro a l m; cases a <;> kernel_rfl) (by intro a l m; cases a <;> kernel_rfl) (by intro a l m; cases a <;> kernel_rfl) (by intro a l m; cases a <;> kernel_rfl) (by intro a l m; cases a <;> kernel_rfl) (by intro a l m; cases a <;> kernel_rfl)
theorem yHb {k:Nat} (hk:is9 k) (a l:Bool) (N:Int):runK [a] ((bH k,dB,true,()),(false,0,()),(N,l,[],()))=some (!decide (N=k),(decide (N=k) && !l,0,())):=by
 refine yCb (q:=fun N=>runK [a] ((bH k,dB,true,()),(false,0,()),(N,l,[],()))=some (!decide (N=k),(decide (N=k) && !l,0,()))) k (fun j hj=>?_) ?_ (fun m=>?_) (fun m=>?_) N
 ·rw [yLa k hk a l j hj,decide_eq_false (by simp only [Int.ofNat_eq_natCast]; omega)]
  rfl
 ·rw [yLb k hk a l,decide_eq_true (by rfl)]
  rfl
 ·rw [yLc k hk a l m,decide_eq_false (by simp only [Int.ofNat_eq_natCast]; omega)]
  rfl
 ·rw [yHa k hk a l m,decide_eq_false (by omega)]
  rfl
theorem yHc:∀ k,is9 k->∀ a l N,runK [a] ((bH k,dB,true,()),(true,0,()),(N,l,[],()))=some (false,(!l,0,())) :=
 nine (by intro a l N; cases a <;> cases l <;> kernel_rfl) (by intro a l N; cases a <;> cases l <;> kernel_rfl) (by intro a l N; cases a <;> cases l <;> kernel_rfl) (by intro a l N; cases a <;> cases l <;> kernel_rfl) (by intro a l N; cases a <;> cases l <;> kernel_rfl) (by intro a l N; cases a <;> cases l <;> kernel_rfl) (by intro a l N; cases a <;> cases l <;> kernel_rfl) (by intro a l N; cases a <;> cases l <;> kernel_rfl) (by intro a l N; cases a <;> cases l <;> kernel_rfl)
theorem zFa {F:Wt->Option (Bool × (Bool × Int × Unit))} {C:yI × yI × Bool × Unit->Prop} {s0:Bool × Int × Unit} {v:yI × yI × Bool × Unit->Int->Bool->Bool × (Bool × Int × Unit)}
  (hF:∀ x,(C x.1∧x.2.1=s0∧x.2.2.2.2.1=[]->F x=some (v x.1 x.2.2.1 x.2.2.2.1))∧(¬ (C x.1∧x.2.1=s0∧x.2.2.2.2.1=[])->F x=none))
  (h:∀ r,C r->∀ l a N,runK [a] (r,s0,(N,l,[],()))=some (v r N l)):Pure Tryz.prog 248 Dx Mi F:=by
 refine Jk Tryz.E_ok (by kernel_rfl) fun (x:Wt) y hxy bs hbs=>?_
 obtain ⟨r',s,N,l,hs,_⟩:=x
 by_cases hh:C r'∧s=s0∧hs=[]
 ·rw [(hF _).1 hh] at hxy
  obtain ⟨h1,h2,h3⟩:=hh
  simp only [aA] at hxy
  subst h2 h3 hxy
  rw [yGe] at hbs
  obtain ⟨a,rfl⟩:=len1 hbs
  exact ⟨2000,h r' h1 l a N⟩
 ·rw [(hF _).2 hh] at hxy
  cases hxy
theorem zKg (n:Nat):Pure Tryz.prog 248 Dx Mi (kE n) :=
 pure_or (zFa (C:=fun r=>r=(noA,noA,false,())) (s0:=(false,0,())) (v:=fun _ _ _=>(true,(false,0,()))) (fun _=>⟨fun h=>if_pos h,fun h=>if_neg h⟩) fun r hr l a N=>by rw [hr]; exact yGf l a N)
  (pure_or (zFa (C:=fun r=>∃ k,is9 k∧∃ not,r=(bH k,noA,not,())) (s0:=(false,0,())) (v:=fun r N _=>(xor (decide (N=r.1.2.1)) r.2.2.1,(false,0,()))) (fun _=>⟨fun h=>if_pos h,fun h=>if_neg h⟩) fun r hr l a N=>by
    obtain ⟨k,hk,not,rfl⟩:=hr; exact yGq hk a l not N)
   (pure_or (zFa (C:=fun r=>∃ k,is9 k∧r=(bH k,dB,true,())) (s0:=(false,0,())) (v:=fun r N l=>(!decide (N=r.1.2.1),(decide (N=r.1.2.1) && !l,0,()))) (fun _=>⟨fun h=>if_pos h,fun h=>if_neg h⟩) fun r hr l a N=>by
     obtain ⟨k,hk,rfl⟩:=hr; exact yHb hk a l N)
    (zFa (C:=fun r=>∃ k,is9 k∧r=(bH k,dB,true,())) (s0:=(true,0,())) (v:=fun _ _ l=>(false,(!l,0,()))) (fun _=>⟨fun h=>if_pos h,fun h=>if_neg h⟩) fun r hr l a N=>by
     obtain ⟨k,hk,rfl⟩:=hr; exact yHc k hk a l N)))
end Go.Dec
