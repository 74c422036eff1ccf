/- Part of a proof over this seat: a library of my own, and what it says of this seat. No statement is proved here. -/
import Derived.Test.YtmpoakdpdflfgaaGreatDoorPartBJ
import Derived.Test.YtmpoakdpdflfgaaGreatDoorPartBI
import Derived.Test.YtmpoakdpdflfgaaGreatDoorPartAX
import Derived.KernelRfl
namespace Go.Dec
abbrev yBf : Type:=Int × List Int × Int × Int × Int × Int × Int × Unit
abbrev zQq : Type:=Int × Int × Int × Unit
abbrev zQr : Type:=(zQq × zQq × Bool × Unit) × Int × List UInt8 × List UInt8 × Int × Int × Int × List (List UInt8 × Int × Unit) × Bool × Bool × Unit
abbrev zYf : Type:=Bool × List (List yBf × Bool × Unit) × List zQr × Unit
abbrev Ir : Type:=zYf × Bool × List (List UInt8) × Bool × Unit
abbrev lH : Type:=List UInt8 × List UInt8 × Unit
def Wd (r : zQq) (op : Int) (text : List UInt8) (n : Int) : zQr:=((r,(0,0,0,()),false,()),op,text,[],n,0,-1,[],false,false,())
def jK (cs : List zQr) : zYf:=(false,[],cs,())
section
open Classical
noncomputable def zDk (x : Ir × List lH) : Option (List lH) :=
 if x.1.1 = jK [] ∧ x.1.2.2.2.1 = false ∧ ((x.1.2.2.1 = [] ∧ x.2 = []) ∨ (x.1.2.2.1 = [[102]] ∧ x.2.map (·.1) = [[102]]) ∨ (x.1.2.2.1 = [[102],[103]] ∧ x.2.map (·.1) = [[102],[103]]) ∨ (x.1.2.2.1 = [[102],[110,111,110,101],[103]] ∧ x.2.map (·.1) = [[102],[103]])) then some x.2 else none
noncomputable def zQs (x : Ir × List lH) : Option (List lH) :=
 match x.1.1.2.2.1 with
 | [c] => if x.1.1 = jK [Wd (1,c.1.1.2.1,0,()) 113 [] c.2.2.2.2.1] ∧ x.1.2.2.1 = [] ∧ x.1.2.2.2.1 = false ∧ x.2 = [] then some [] else none
 | _ => none
noncomputable def zQt (x : Ir × List lH) : Option (List lH) :=
 if x.1.1 = jK [Wd (0,0,0,()) 119 [102] 0] ∧ x.1.2.2.1 = [] ∧ x.1.2.2.2.1 = false ∧ x.2.map (·.1) = [[102]] then some [([102],[],())] else none
end
def orF {α β : Type} (F G : α -> Option β) (x : α) : Option β:=match F x with | some y => some y | none => G x
noncomputable def iP (_n : Nat) (x : Ir × List lH) : Option (List lH):=orF zDk (orF zQs zQt) x
def fK (_n : Nat) (x : List UInt8 × Unit) : Option (List (List UInt8 × Bool × Unit) × Unit):=chk (decide (x.1.length < 4294967281)) (some (aM x.1,()))
end Go.Dec
namespace Go.Dec
open Go.Proofs Go.Ce
abbrev yBg : Ty:=.pair (.int .i64) (.pair (.arr 4 (.int .u64)) (.pair (.int .i64) (.pair (.int .i64) (.pair (.int .i64) (.pair (.int .i64) (.pair (.int .i64) .unit))))))
abbrev AddT : Ty:=.pair (.int .i64) (.pair (.int .i64) (.pair (.int .i64) .unit))
abbrev yBh : Ty:=.pair (.pair AddT (.pair AddT (.pair .bool .unit))) (.pair (.int .u8) (.pair .str (.pair .str (.pair (.int .i64) (.pair (.int .i64) (.pair (.int .i64) (.pair (.slice (.pair .str (.pair (.int .i64) .unit))) (.pair .bool (.pair .bool .unit)))))))))
abbrev yBi : Ty:=.pair .bool (.pair (.slice (.pair (.slice yBg) (.pair .bool .unit))) (.pair (.slice yBh) .unit))
abbrev yBj : Ty:=.pair yBi (.pair .bool (.pair (.slice .str) (.pair .bool .unit)))
abbrev zYg : Ty:=.pair .str (.pair .str .unit)
abbrev bK : List Ty:=[yBj,.slice zYg]
abbrev fM : List Ty:=[.slice zYg]
theorem pure_or {P : Program} {f : FuncId} {ps rs : List Ty} {F G : bE ps -> Option (bE rs)} (h : Pure P f ps rs F) (h' : Pure P f ps rs G) : Pure P f ps rs (orF F G) :=
 ⟨h.1,fun x y e => by
  unfold orF at e
  cases hF : F x with
  | some z => rw [hF] at e; exact h.2 x y (hF.trans e)
  | none => rw [hF] at e; exact h'.2 x y e⟩
theorem zYh {t : List lH} {a : List UInt8} (h : t.map (·.1) = [a]) : ∃ d,t = [(a,d,())]:=by
 match t,h with
 | [(x,d,_)],h => simp at h; subst h; exact ⟨d,rfl⟩
theorem zYi {t : List lH} {a b : List UInt8} (h : t.map (·.1) = [a,b]) : ∃ d e,t = [(a,d,()),(b,e,())]:=by
 match t,h with
 | [(x,d,_),(y,e,_)],h => simp at h; obtain ⟨rfl,rfl⟩:=h; exact ⟨d,e,rfl⟩
theorem len2 {bs : List Bool} (h : bs.length = 2) : ∃ a b,bs = [a,b]:=by
 match bs,h with
 | [a,b],_ => exact ⟨a,b,rfl⟩
theorem yBk {bs : List Bool} (h : bs.length = 3) : ∃ a b c,bs = [a,b,c]:=by
 match bs,h with
 | [a,b,c],_ => exact ⟨a,b,c,rfl⟩
theorem zYj {bs : List Bool} (h : bs.length = 4) : ∃ a b c d,bs = [a,b,c,d]:=by
 match bs,h with
 | [a,b,c,d],_ => exact ⟨a,b,c,d,rfl⟩
noncomputable abbrev Wh (k : Nat) (bs : List Bool) (x : Ir × List lH) : Option (List lH):=Vy Tryz.E 22 bK fM k bs x
theorem zQu (k code : Int) (quiet a b c d : Bool) : Wh 2000 [a,b,c,d] ((jK [Wd (1,k,0,()) 113 [] code],quiet,[],false,()),[]) = some []:=by
 cases a <;> cases b <;> cases c <;> cases d <;> kernel_rfl
theorem zMs (k code : Int) (quiet : Bool) : tZ bK ((jK [Wd (1,k,0,()) 113 [] code],quiet,[],false,()),[]) = 4:=by kernel_rfl
theorem zMt : Pure Tryz.prog 22 bK fM zQs:=by
 refine xY Tryz.E_ok (by kernel_rfl) fun (x : Ir × List lH) y hxy bs hbs => ?_
 obtain ⟨⟨scr,quiet,files,bad,_⟩,t⟩:=x
 unfold zQs at hxy
 split at hxy
 ·rename_i c hc
  split at hxy
  ·rename_i h
   obtain ⟨h1,h2,h3,h4⟩:=h
   simp only at h1 h2 h3 h4
   simp only [Option.some.injEq] at hxy
   subst h1 h2 h3 h4 hxy
   rw [zMs] at hbs
   obtain ⟨a,b,c,d,rfl⟩:=zYj hbs
   exact ⟨2000,zQu _ _ quiet a b c d⟩
  ·cases hxy
 ·cases hxy
theorem zQv (was : List UInt8) (quiet a b c : Bool) : Wh 2000 [a,b,c] ((jK [Wd (0,0,0,()) 119 [102] 0],quiet,[],false,()),[([102],was,())]) = some [([102],[],())]:=by
 cases a <;> cases b <;> cases c <;> kernel_rfl
theorem zMu (was : List UInt8) (quiet : Bool) : tZ bK ((jK [Wd (0,0,0,()) 119 [102] 0],quiet,[],false,()),[([102],was,())]) = 3:=by kernel_rfl
theorem zMv : Pure Tryz.prog 22 bK fM zQt:=by
 refine xY Tryz.E_ok (by kernel_rfl) fun (x : Ir × List lH) y hxy bs hbs => ?_
 obtain ⟨⟨scr,quiet,files,bad,_⟩,t⟩:=x
 unfold zQt at hxy
 split at hxy
 ·rename_i h
  obtain ⟨h1,h2,h3,h4⟩:=h
  simp only at h1 h2 h3 h4
  obtain ⟨was,rfl⟩:=zYh h4
  simp only [Option.some.injEq] at hxy
  subst h1 h2 h3 hxy
  rw [zMu] at hbs
  obtain ⟨a,b,c,rfl⟩:=yBk hbs
  exact ⟨2000,zQv was quiet a b c⟩
 ·cases hxy
theorem zMw (quiet a b c d : Bool) : Wh 2000 [a,b,c,d] ((jK [],quiet,[],false,()),[]) = some []:=by
 cases a <;> cases b <;> cases c <;> cases d <;> kernel_rfl
theorem zKe (quiet : Bool) : tZ bK ((jK [],quiet,[],false,()),[]) = 4:=by kernel_rfl
theorem zMx (u : List UInt8) (quiet a b : Bool) : Wh 2000 [a,b] ((jK [],quiet,[[102]],false,()),[([102],u,())]) = some [([102],rt u,())]:=by
 cases a <;> cases b <;> kernel_rfl
theorem zKf (u : List UInt8) (quiet : Bool) : tZ bK ((jK [],quiet,[[102]],false,()),[([102],u,())]) = 2:=by kernel_rfl
theorem zMy (u v : List UInt8) (quiet a b : Bool) : Wh 2000 [a,b] ((jK [],quiet,[[102],[103]],false,()),[([102],u,()),([103],v,())]) = some [([102],rt u,()),([103],rt v,())]:=by
 cases a <;> cases b <;> kernel_rfl
theorem zKg (u v : List UInt8) (quiet : Bool) : tZ bK ((jK [],quiet,[[102],[103]],false,()),[([102],u,()),([103],v,())]) = 2:=by kernel_rfl
theorem zMz (u v : List UInt8) (quiet a b : Bool) : Wh 2000 [a,b] ((jK [],quiet,[[102],[110,111,110,101],[103]],false,()),[([102],u,()),([103],v,())]) = some [([102],rt u,()),([103],rt v,())]:=by
 cases a <;> cases b <;> kernel_rfl
theorem zKh (u v : List UInt8) (quiet : Bool) : tZ bK ((jK [],quiet,[[102],[110,111,110,101],[103]],false,()),[([102],u,()),([103],v,())]) = 2:=by kernel_rfl
theorem zNa : Pure Tryz.prog 22 bK fM zDk:=by
 refine xY Tryz.E_ok (by kernel_rfl) fun (x : Ir × List lH) y hxy bs hbs => ?_
 obtain ⟨⟨scr,quiet,files,bad,_⟩,t⟩:=x
 unfold zDk at hxy
 split at hxy
 ·rename_i h
  obtain ⟨h1,h2,h3⟩:=h
  simp only at h1 h2 h3
  simp only [Option.some.injEq] at hxy
  rcases h3 with ⟨h3,h4⟩ | ⟨h3,h4⟩ | ⟨h3,h4⟩ | ⟨h3,h4⟩
  ·subst h1 h2 h3 h4 hxy
   rw [zKe] at hbs
   obtain ⟨a,b,c,d,rfl⟩:=zYj hbs
   exact ⟨2000,zMw quiet a b c d⟩
  ·obtain ⟨u,rfl⟩:=zYh h4
   subst h1 h2 h3 hxy
   rw [zKf] at hbs
   obtain ⟨a,b,rfl⟩:=len2 hbs
   exact ⟨2000,by rw [show Vy Tryz.E 22 bK fM 2000 [a,b] _ = _ from zMx u quiet a b,rt_eq]⟩
  ·obtain ⟨u,v,rfl⟩:=zYi h4
   subst h1 h2 h3 hxy
   rw [zKg] at hbs
   obtain ⟨a,b,rfl⟩:=len2 hbs
   exact ⟨2000,by rw [show Vy Tryz.E 22 bK fM 2000 [a,b] _ = _ from zMy u v quiet a b,rt_eq,rt_eq]⟩
  ·obtain ⟨u,v,rfl⟩:=zYi h4
   subst h1 h2 h3 hxy
   rw [zKh] at hbs
   obtain ⟨a,b,rfl⟩:=len2 hbs
   exact ⟨2000,by rw [show Vy Tryz.E 22 bK fM 2000 [a,b] _ = _ from zMz u v quiet a b,rt_eq,rt_eq]⟩
 ·cases hxy
theorem Oq (n : Nat) : Pure Tryz.prog 22 bK fM (iP n):=pure_or zNa (pure_or zMt zMv)
end Go.Dec
