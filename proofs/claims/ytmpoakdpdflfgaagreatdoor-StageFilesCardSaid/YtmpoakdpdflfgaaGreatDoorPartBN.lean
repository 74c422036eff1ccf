/- Part of a proof over this seat: a library of my own, and what it says of this seat. No statement is proved here. -/
import Derived.Test.YtmpoakdpdflfgaaGreatDoorPartBJ
import Derived.Test.YtmpoakdpdflfgaaGreatDoorPartBI
import Derived.Test.YtmpoakdpdflfgaaGreatDoorPartAX
import Derived.KernelRfl
namespace Go.Dec
abbrev yBi:Type:=Int × List Int × Int × Int × Int × Int × Int × Unit
abbrev zQq:Type:=Int × Int × Int × Unit
abbrev zQr:Type:=(zQq × zQq × Bool × Unit) × Int × List UInt8 × List UInt8 × Int × Int × Int × List (List UInt8 × Int × Unit) × Bool × Bool × Unit
abbrev zYi:Type:=Bool × List (List yBi × Bool × Unit) × List zQr × Unit
abbrev Ir:Type:=zYi × Bool × List (List UInt8) × Bool × Unit
abbrev lK:Type:=List UInt8 × List UInt8 × Unit
def Ve (r:zQq) (op:Int) (text:List UInt8) (n:Int):zQr:=((r,(0,0,0,()),false,()),op,text,[],n,0,-1,[],false,false,())
def jM (cs:List zQr):zYi:=(false,[],cs,())
section
open Classical
noncomputable def zDg (x:Ir × List lK):Option (List lK) :=
 if x.1.1 = jM [] ∧ x.1.2.2.2.1 = false ∧ ((x.1.2.2.1 = [] ∧ x.2 = []) ∨ (x.1.2.2.1 = [[102]] ∧ x.2.map (·.1) = [[102]]) ∨ (x.1.2.2.1 = [[102],[103]] ∧ x.2.map (·.1) = [[102],[103]]) ∨ (x.1.2.2.1 = [[102],[110,111,110,101],[103]] ∧ x.2.map (·.1) = [[102],[103]])) then some x.2 else none
noncomputable def zQs (x:Ir × List lK):Option (List lK) :=
 match x.1.1.2.2.1 with
 | [c]=>if x.1.1 = jM [Ve (1,c.1.1.2.1,0,()) 113 [] c.2.2.2.2.1] ∧ x.1.2.2.1 = [] ∧ x.1.2.2.2.1 = false ∧ x.2 = [] then some [] else none
 | _=>none
noncomputable def zQt (x:Ir × List lK):Option (List lK) :=
 if x.1.1 = jM [Ve (0,0,0,()) 119 [102] 0] ∧ x.1.2.2.1 = [] ∧ x.1.2.2.2.1 = false ∧ x.2.map (·.1) = [[102]] then some [([102],[],())] else none
end
def orF {α β:Type} (F G:α -> Option β) (x:α):Option β:=match F x with | some y=>some y | none=>G x
noncomputable def iT (_n:Nat) (x:Ir × List lK):Option (List lK):=orF zDg (orF zQs zQt) x
def fQ (_n:Nat) (x:List UInt8 × Unit):Option (List (List UInt8 × Bool × Unit) × Unit):=chk (decide (x.1.length < 4294967281)) (some (aH x.1,()))
end Go.Dec
namespace Go.Dec
open Go.Proofs Go.Ce
abbrev yBj:Ty:=.pair (.int .i64) (.pair (.arr 4 (.int .u64)) (.pair (.int .i64) (.pair (.int .i64) (.pair (.int .i64) (.pair (.int .i64) (.pair (.int .i64) .unit))))))
abbrev AddT:Ty:=.pair (.int .i64) (.pair (.int .i64) (.pair (.int .i64) .unit))
abbrev yBk:Ty:=.pair (.pair AddT (.pair AddT (.pair .bool .unit))) (.pair (.int .u8) (.pair .str (.pair .str (.pair (.int .i64) (.pair (.int .i64) (.pair (.int .i64) (.pair (.slice (.pair .str (.pair (.int .i64) .unit))) (.pair .bool (.pair .bool .unit)))))))))
abbrev yBl:Ty:=.pair .bool (.pair (.slice (.pair (.slice yBj) (.pair .bool .unit))) (.pair (.slice yBk) .unit))
abbrev yBm:Ty:=.pair yBl (.pair .bool (.pair (.slice .str) (.pair .bool .unit)))
abbrev zYj:Ty:=.pair .str (.pair .str .unit)
abbrev bK:List Ty:=[yBm,.slice zYj]
abbrev fT:List Ty:=[.slice zYj]
theorem pure_or {P:Program} {f:FuncId} {ps rs:List Ty} {F G:bE ps -> Option (bE rs)} (h:Pure P f ps rs F) (h':Pure P f ps rs G):Pure P f ps rs (orF F G) :=
 ⟨h.1,fun x y e=>by
  unfold orF at e
  cases hF:F x with
  | some z=>rw [hF] at e; exact h.2 x y (hF.trans e)
  | none=>rw [hF] at e; exact h'.2 x y e⟩
theorem zYk {t:List lK} {a:List UInt8} (h:t.map (·.1) = [a]):∃ d,t = [(a,d,())]:=by
 match t,h with
 | [(x,d,_)],h=>simp at h; subst h; exact ⟨d,rfl⟩
theorem zYl {t:List lK} {a b:List UInt8} (h:t.map (·.1) = [a,b]):∃ d e,t = [(a,d,()),(b,e,())]:=by
 match t,h with
 | [(x,d,_),(y,e,_)],h=>simp at h; obtain ⟨rfl,rfl⟩:=h; exact ⟨d,e,rfl⟩
theorem len2 {bs:List Bool} (h:bs.length = 2):∃ a b,bs = [a,b]:=by
 match bs,h with
 | [a,b],_=>exact ⟨a,b,rfl⟩
theorem yBn {bs:List Bool} (h:bs.length = 3):∃ a b c,bs = [a,b,c]:=by
 match bs,h with
 | [a,b,c],_=>exact ⟨a,b,c,rfl⟩
theorem zYm {bs:List Bool} (h:bs.length = 4):∃ a b c d,bs = [a,b,c,d]:=by
 match bs,h with
 | [a,b,c,d],_=>exact ⟨a,b,c,d,rfl⟩
noncomputable abbrev Vf (k:Nat) (bs:List Bool) (x:Ir × List lK):Option (List lK):=Vb Tryz.E 22 bK fT k bs x
theorem zQu (k code:Int) (quiet a b c d:Bool):Vf 2000 [a,b,c,d] ((jM [Ve (1,k,0,()) 113 [] code],quiet,[],false,()),[]) = some []:=by
 cases a <;> cases b <;> cases c <;> cases d <;> kernel_rfl
theorem zMq (k code:Int) (quiet:Bool):uD bK ((jM [Ve (1,k,0,()) 113 [] code],quiet,[],false,()),[]) = 4:=by kernel_rfl
theorem zMr:Pure Tryz.prog 22 bK fT zQs:=by
 refine xX Tryz.E_ok (by kernel_rfl) fun (x:Ir × List lK) y hxy bs hbs=>?_
 obtain ⟨⟨scr,quiet,files,bad,_⟩,t⟩:=x
 unfold zQs at hxy
 split at hxy
 ·rename_i c hc
  split at hxy
  ·rename_i h
   obtain ⟨h1,h2,h3,h4⟩:=h
   simp only at h1 h2 h3 h4
   simp only [Option.some.injEq] at hxy
   subst h1 h2 h3 h4 hxy
   rw [zMq] at hbs
   obtain ⟨a,b,c,d,rfl⟩:=zYm hbs
   exact ⟨2000,zQu _ _ quiet a b c d⟩
  ·cases hxy
 ·cases hxy
theorem zQv (was:List UInt8) (quiet a b c:Bool):Vf 2000 [a,b,c] ((jM [Ve (0,0,0,()) 119 [102] 0],quiet,[],false,()),[([102],was,())]) = some [([102],[],())]:=by
 cases a <;> cases b <;> cases c <;> kernel_rfl
theorem zMs (was:List UInt8) (quiet:Bool):uD bK ((jM [Ve (0,0,0,()) 119 [102] 0],quiet,[],false,()),[([102],was,())]) = 3:=by kernel_rfl
theorem zMt:Pure Tryz.prog 22 bK fT zQt:=by
 refine xX Tryz.E_ok (by kernel_rfl) fun (x:Ir × List lK) y hxy bs hbs=>?_
 obtain ⟨⟨scr,quiet,files,bad,_⟩,t⟩:=x
 unfold zQt at hxy
 split at hxy
 ·rename_i h
  obtain ⟨h1,h2,h3,h4⟩:=h
  simp only at h1 h2 h3 h4
  obtain ⟨was,rfl⟩:=zYk h4
  simp only [Option.some.injEq] at hxy
  subst h1 h2 h3 hxy
  rw [zMs] at hbs
  obtain ⟨a,b,c,rfl⟩:=yBn hbs
  exact ⟨2000,zQv was quiet a b c⟩
 ·cases hxy
theorem zMu (quiet a b c d:Bool):Vf 2000 [a,b,c,d] ((jM [],quiet,[],false,()),[]) = some []:=by
 cases a <;> cases b <;> cases c <;> cases d <;> kernel_rfl
theorem zKf (quiet:Bool):uD bK ((jM [],quiet,[],false,()),[]) = 4:=by kernel_rfl
theorem zMv (u:List UInt8) (quiet a b:Bool):Vf 2000 [a,b] ((jM [],quiet,[[102]],false,()),[([102],u,())]) = some [([102],rt u,())]:=by
 cases a <;> cases b <;> kernel_rfl
theorem zKg (u:List UInt8) (quiet:Bool):uD bK ((jM [],quiet,[[102]],false,()),[([102],u,())]) = 2:=by kernel_rfl
theorem zMw (u v:List UInt8) (quiet a b:Bool):Vf 2000 [a,b] ((jM [],quiet,[[102],[103]],false,()),[([102],u,()),([103],v,())]) = some [([102],rt u,()),([103],rt v,())]:=by
 cases a <;> cases b <;> kernel_rfl
theorem zKh (u v:List UInt8) (quiet:Bool):uD bK ((jM [],quiet,[[102],[103]],false,()),[([102],u,()),([103],v,())]) = 2:=by kernel_rfl
theorem zMx (u v:List UInt8) (quiet a b:Bool):Vf 2000 [a,b] ((jM [],quiet,[[102],[110,111,110,101],[103]],false,()),[([102],u,()),([103],v,())]) = some [([102],rt u,()),([103],rt v,())]:=by
 cases a <;> cases b <;> kernel_rfl
theorem zKi (u v:List UInt8) (quiet:Bool):uD bK ((jM [],quiet,[[102],[110,111,110,101],[103]],false,()),[([102],u,()),([103],v,())]) = 2:=by kernel_rfl
theorem zMy:Pure Tryz.prog 22 bK fT zDg:=by
 refine xX Tryz.E_ok (by kernel_rfl) fun (x:Ir × List lK) y hxy bs hbs=>?_
 obtain ⟨⟨scr,quiet,files,bad,_⟩,t⟩:=x
 unfold zDg at hxy
 split at hxy
 ·rename_i h
  obtain ⟨h1,h2,h3⟩:=h
  simp only at h1 h2 h3
  simp only [Option.some.injEq] at hxy
  rcases h3 with ⟨h3,h4⟩ | ⟨h3,h4⟩ | ⟨h3,h4⟩ | ⟨h3,h4⟩
  ·subst h1 h2 h3 h4 hxy
   rw [zKf] at hbs
   obtain ⟨a,b,c,d,rfl⟩:=zYm hbs
   exact ⟨2000,zMu quiet a b c d⟩
  ·obtain ⟨u,rfl⟩:=zYk h4
   subst h1 h2 h3 hxy
   rw [zKg] at hbs
   obtain ⟨a,b,rfl⟩:=len2 hbs
   exact ⟨2000,by rw [show Vb Tryz.E 22 bK fT 2000 [a,b] _ = _ from zMv u quiet a b,rt_eq]⟩
  ·obtain ⟨u,v,rfl⟩:=zYl h4
   subst h1 h2 h3 hxy
   rw [zKh] at hbs
   obtain ⟨a,b,rfl⟩:=len2 hbs
   exact ⟨2000,by rw [show Vb Tryz.E 22 bK fT 2000 [a,b] _ = _ from zMw u v quiet a b,rt_eq,rt_eq]⟩
  ·obtain ⟨u,v,rfl⟩:=zYl h4
   subst h1 h2 h3 hxy
   rw [zKi] at hbs
   obtain ⟨a,b,rfl⟩:=len2 hbs
   exact ⟨2000,by rw [show Vb Tryz.E 22 bK fT 2000 [a,b] _ = _ from zMx u v quiet a b,rt_eq,rt_eq]⟩
 ·cases hxy
theorem Ot (n:Nat):Pure Tryz.prog 22 bK fT (iT n):=pure_or zMy (pure_or zMr zMt)
end Go.Dec
