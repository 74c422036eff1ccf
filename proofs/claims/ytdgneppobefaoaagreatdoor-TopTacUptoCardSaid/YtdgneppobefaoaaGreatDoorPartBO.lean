/- Part of a proof over this seat: a library of my own, and what it says of this seat. No statement is proved here. -/
import Derived.Test.YtdgneppobefaoaaGreatDoorPartBJ
import Derived.Test.YtdgneppobefaoaaGreatDoorPartBI
import Derived.Test.YtdgneppobefaoaaGreatDoorPartAX
import Derived.KernelRfl
namespace Go.Dec
abbrev dB:Type:=Int × List Int × Int × Int × Int × Int × Int × Unit
abbrev Bn:Type:=Int × Int × Int × Unit
abbrev bV:Type:=(Bn × Bn × Bool × Unit) × Int × List UInt8 × List UInt8 × Int × Int × Int × List (List UInt8 × Int × Unit) × Bool × Bool × Unit
abbrev zEl:Type:=Bool × List (List dB × Bool × Unit) × List bV × Unit
abbrev aW:Type:=zEl × Bool × List (List UInt8) × Bool × Unit
abbrev zEm:Type:=List UInt8 × List UInt8 × Unit
def orF {α β:Type} (F G:α->Option β) (x:α):Option β:=match F x with | some y=>some y | none=>G x
def yCi (a b:Bn) (not:Bool) (op n to:Int):bV:=((a,b,not,()),op,[],[],n,to,-1,[],false,false,())
abbrev noA:Bn:=(0,0,0,())
def yNl (quiet:Bool) (cs:List bV):aW:=((false,[],cs,()),quiet,[],false,())
def zVk:List UInt8:=[115,101,100,32,45,110,32,39,49,33,71,59,104,59,36,112,39]
abbrev Tn (k:Int):Bn:=(1,k,0,())
abbrev Pk:Bn:=(2,0,0,())
def zMv:aW:=yNl true [yCi (Tn 1) noA true 71 0 0,yCi noA noA false 104 0 0,yCi Pk noA false 112 0 0]
abbrev Zd:Type:=(Bn × Bn × Bool × Unit) × (Bool × Int × Unit) × (Int × Bool × List Bool × Unit)
section
open Classical
noncomputable def yNm (x:Zd):Option (Bool × (Bool × Int × Unit)) :=
 if x.1=(noA,noA,false,())∧x.2.1=(false,0,())∧x.2.2.2.2.1=[] then some (true,(false,0,())) else none
noncomputable def yNn (k:Int) (x:Zd):Option (Bool × (Bool × Int × Unit)) :=
 if x.1=(Tn k,noA,true,())∧x.2.1=(false,0,())∧x.2.2.2.2.1=[] then some (!decide (x.2.2.1=k),(false,0,())) else none
noncomputable def yNo (x:Zd):Option (Bool × (Bool × Int × Unit)) :=
 if x.1=(Pk,noA,false,())∧x.2.1=(false,0,())∧x.2.2.2.2.1=[] then some (x.2.2.2.1,(false,0,())) else none
noncomputable def oM (_n:Nat):Zd->Option (Bool × (Bool × Int × Unit)):=orF yNm (orF (yNn 1) yNo)
noncomputable def nJ (_n:Nat) (x:List UInt8 × List zEm):Option (List aW × Int × Int) :=
 if x=(zVk,[]) then some ([zMv],0,0) else none
noncomputable def nK (_n:Nat) (x:aW × List zEm):Option (List zEm) :=
 if x=(zMv,[]) then some [] else none
end
end Go.Dec
namespace Go.Dec
open Go.Proofs Go.Ce
abbrev yNp:Ty:=.pair (.int .i64) (.pair (.arr 4 (.int .u64)) (.pair (.int .i64) (.pair (.int .i64) (.pair (.int .i64) (.pair (.int .i64) (.pair (.int .i64) .unit))))))
abbrev AddT:Ty:=.pair (.int .i64) (.pair (.int .i64) (.pair (.int .i64) .unit))
abbrev yNq:Ty:=.pair (.pair AddT (.pair AddT (.pair .bool .unit))) (.pair (.int .u8) (.pair .str (.pair .str (.pair (.int .i64) (.pair (.int .i64) (.pair (.int .i64) (.pair (.slice (.pair .str (.pair (.int .i64) .unit))) (.pair .bool (.pair .bool .unit)))))))))
abbrev yNr:Ty:=.pair .bool (.pair (.slice (.pair (.slice yNp) (.pair .bool .unit))) (.pair (.slice yNq) .unit))
abbrev yJe:Ty:=.pair yNr (.pair .bool (.pair (.slice .str) (.pair .bool .unit)))
abbrev yCj:Ty:=.pair .str (.pair .str .unit)
abbrev uV:List Ty:=[yJe,.slice yCj]
abbrev Bo:List Ty:=[.slice yCj]
abbrev uW:List Ty:=[.str,.slice yCj]
abbrev Bp:List Ty:=[.slice yJe,.int .i64,.int .i64]
abbrev Ai:List Ty:=[(.pair AddT (.pair AddT (.pair .bool .unit))),(.pair .bool (.pair (.int .i64) .unit)),(.pair (.int .i64) (.pair .bool (.pair (.slice .bool) .unit)))]
abbrev Io:List Ty:=[.bool,(.pair .bool (.pair (.int .i64) .unit))]
theorem pure_or {P:Program} {f:FuncId} {ps rs:List Ty} {F G:bG ps->Option (bG rs)} (h:Pure P f ps rs F) (h':Pure P f ps rs G):Pure P f ps rs (orF F G) :=
 ⟨h.1,fun x y e=>by
  unfold orF at e
  cases hF:F x with
  | some z=>rw [hF] at e; exact h.2 x y (hF.trans e)
  | none=>rw [hF] at e; exact h'.2 x y e⟩
theorem len1 {bs:List Bool} (h:bs.length=1):∃ a,bs=[a]:=by
 match bs,h with
 | [a],_=>exact ⟨a,rfl⟩
theorem yNs {bs:List Bool} (h:bs.length=6):∃ a b c d e f,bs=[a,b,c,d,e,f]:=by
 match bs,h with
 | [a,b,c,d,e,f],_=>exact ⟨a,b,c,d,e,f,rfl⟩
noncomputable abbrev runK (bs:List Bool) (x:Zd):Option (Bool × (Bool × Int × Unit)):=zMm Tryz.E 248 Ai Io 2000 bs x
theorem yCk (l a:Bool) (N:Int):runK [a] ((noA,noA,false,()),(false,0,()),(N,l,[],()))=some (true,(false,0,())):=by
 cases a <;> kernel_rfl
theorem yCl (r:Bn × Bn × Bool × Unit) (s:Bool × Int × Unit) (l:Bool) (N:Int):Pg Ai (r,s,(N,l,[],()))=1:=by kernel_rfl
theorem yCm (l a:Bool):∀ N:Int,runK [a] ((Tn 1,noA,true,()),(false,0,()),(N,l,[],()))=some (!decide (N=1),(false,0,()))
 | .ofNat 0=>by cases a <;> kernel_rfl
 | .ofNat 1=>by cases a <;> kernel_rfl
 | .ofNat (m+2)=>by
  rw [decide_eq_false (by simp only [Int.ofNat_eq_natCast]; omega)]
  cases a <;> kernel_rfl
 | .negSucc m=>by
  rw [decide_eq_false (by omega)]
  cases a <;> kernel_rfl
theorem yCn (l a:Bool) (N:Int):runK [a] ((Pk,noA,false,()),(false,0,()),(N,l,[],()))=some (l,(false,0,())):=by
 cases a <;> cases l <;> kernel_rfl
theorem zMw {F:Zd->Option (Bool × (Bool × Int × Unit))} {r:Bn × Bn × Bool × Unit} {v:Int->Bool->Bool} (hF:∀ x,F x=open Classical in if x.1=r∧x.2.1=(false,0,())∧x.2.2.2.2.1=[] then some (v x.2.2.1 x.2.2.2.1,(false,0,())) else none)
  (h:∀ l a N,runK [a] (r,(false,0,()),(N,l,[],()))=some (v N l,(false,0,()))):Pure Tryz.prog 248 Ai Io F:=by
 refine Fp Tryz.E_ok (by kernel_rfl) fun (x:Zd) y hxy bs hbs=>?_
 obtain ⟨r',s,N,l,hs,_⟩:=x
 rw [hF] at hxy
 split at hxy
 ·rename_i hh
  obtain ⟨h1,h2,h3⟩:=hh
  simp only at h1 h2 h3
  simp only [Option.some.injEq] at hxy
  subst h1 h2 h3 hxy
  rw [yCl] at hbs
  obtain ⟨a,rfl⟩:=len1 hbs
  exact ⟨2000,h l a N⟩
 ·cases hxy
theorem zHz (n:Nat):Pure Tryz.prog 248 Ai Io (oM n) :=
 pure_or (zMw (v:=fun _ _=>true) (fun _=>rfl) fun l a N=>yCk l a N)
  (pure_or (zMw (v:=fun N _=>!decide (N=1)) (fun _=>rfl) fun l a N=>yCm l a N) (zMw (v:=fun _ l=>l) (fun _=>rfl) fun l a N=>yCn l a N))
theorem zPp (a:Bool):zMm Tryz.E 63 uW Bp 20000 [a] (zVk,[])=some ([zMv],0,0):=by cases a <;> kernel_rfl
theorem zMx:Pg uW (zVk,[])=1:=by kernel_rfl
theorem Wh (n:Nat):Pure Tryz.prog 63 uW Bp (nJ n):=by
 refine Fp Tryz.E_ok (by kernel_rfl) fun (x:List UInt8 × List zEm) y hxy bs hbs=>?_
 unfold nJ at hxy
 split at hxy
 ·rename_i hh
  subst hh
  simp only [Option.some.injEq] at hxy
  subst hxy
  rw [zMx] at hbs
  obtain ⟨a,rfl⟩:=len1 hbs
  exact ⟨20000,zPp a⟩
 ·cases hxy
theorem zVl (a b c d e f:Bool):zMm Tryz.E 159 uV Bo 2000 [a,b,c,d,e,f] (zMv,[])=some []:=by cases a <;> cases b <;> cases c <;> cases d <;> cases e <;> cases f <;> kernel_rfl
theorem zPq:Pg uV (zMv,[])=6:=by kernel_rfl
theorem Wi (n:Nat):Pure Tryz.prog 159 uV Bo (nK n):=by
 refine Fp Tryz.E_ok (by kernel_rfl) fun (x:aW × List zEm) y hxy bs hbs=>?_
 unfold nK at hxy
 split at hxy
 ·rename_i hh
  subst hh
  simp only [Option.some.injEq] at hxy
  subst hxy
  rw [zPq] at hbs
  obtain ⟨a,b,c,d,e,f,rfl⟩:=yNs hbs
  exact ⟨2000,zVl a b c d e f⟩
 ·cases hxy
end Go.Dec
