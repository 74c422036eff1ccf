/- Part of a proof over this seat: a library of my own, and what it says of this seat. No statement is proved here. -/
import Derived.Test.YtmpoakdpdflfgaaGreatDoorPartBJ
import Derived.Test.YtmpoakdpdflfgaaGreatDoorPartBI
import Derived.Test.YtmpoakdpdflfgaaGreatDoorPartAX
import Derived.KernelRfl
namespace Go.Dec
abbrev yHb:Type:=Int × List Int × Int × Int × Int × Int × Int × Unit
abbrev zGa:Type:=Int × Int × Int × Unit
abbrev zGb:Type:=(zGa × zGa × Bool × Unit) × Int × List UInt8 × List UInt8 × Int × Int × Int × List (List UInt8 × Int × Unit) × Bool × Bool × Unit
abbrev zUk:Type:=Bool × List (List yHb × Bool × Unit) × List zGb × Unit
abbrev Lm:Type:=zUk × Bool × List (List UInt8) × Bool × Unit
abbrev nV:Type:=List UInt8 × List UInt8 × Unit
def Yf (r:zGa) (op:Int) (text:List UInt8) (n:Int):zGb:=((r,(0,0,0,()),false,()),op,text,[],n,0,-1,[],false,false,())
def qE (cs:List zGb):zUk:=(false,[],cs,())
section
open Classical
noncomputable def zNj (x:Lm × List nV):Option (List nV) :=
 if x.1.1=qE []∧x.1.2.2.2.1=false∧((x.1.2.2.1=[]∧x.2=[])∨(x.1.2.2.1=[[102]]∧x.2.map (·.1)=[[102]])∨(x.1.2.2.1=[[102],[103]]∧x.2.map (·.1)=[[102],[103]])∨(x.1.2.2.1=[[102],[110,111,110,101],[103]]∧x.2.map (·.1)=[[102],[103]])) then some x.2 else none
noncomputable def zNk (x:Lm × List nV):Option (List nV) :=
 match x.1.1.2.2.1 with
 | [c]=>if x.1.1=qE [Yf (1,c.1.1.2.1,0,()) 113 [] c.2.2.2.2.1]∧x.1.2.2.1=[]∧x.1.2.2.2.1=false∧x.2=[] then some [] else none
 | _=>none
noncomputable def zUl (x:Lm × List nV):Option (List nV) :=
 if x.1.1=qE [Yf (0,0,0,()) 119 [102] 0]∧x.1.2.2.1=[]∧x.1.2.2.2.1=false∧x.2.map (·.1)=[[102]] then some [([102],[],())] else none
end
def orF {α β:Type} (F G:α->Option β) (x:α):Option β:=match F x with | some y=>some y | none=>G x
noncomputable def qP (_n:Nat) (x:Lm × List nV):Option (List nV):=orF zNj (orF zNk zUl) x
def gD (_n:Nat) (x:List UInt8 × Unit):Option (List (List UInt8 × Bool × Unit) × Unit):=chk (decide (x.1.length < 4294967281)) (some (aL x.1,()))
end Go.Dec
namespace Go.Dec
open Go.Proofs Go.Ce
abbrev yHc:Ty:=.pair (.int .i64) (.pair (.arr 4 (.int .u64)) (.pair (.int .i64) (.pair (.int .i64) (.pair (.int .i64) (.pair (.int .i64) (.pair (.int .i64) .unit))))))
abbrev AddT:Ty:=.pair (.int .i64) (.pair (.int .i64) (.pair (.int .i64) .unit))
abbrev yHd:Ty:=.pair (.pair AddT (.pair AddT (.pair .bool .unit))) (.pair (.int .u8) (.pair .str (.pair .str (.pair (.int .i64) (.pair (.int .i64) (.pair (.int .i64) (.pair (.slice (.pair .str (.pair (.int .i64) .unit))) (.pair .bool (.pair .bool .unit)))))))))
abbrev yHe:Ty:=.pair .bool (.pair (.slice (.pair (.slice yHc) (.pair .bool .unit))) (.pair (.slice yHd) .unit))
abbrev yHf:Ty:=.pair yHe (.pair .bool (.pair (.slice .str) (.pair .bool .unit)))
abbrev yDw:Ty:=.pair .str (.pair .str .unit)
abbrev bR:List Ty:=[yHf,.slice yDw]
abbrev gF:List Ty:=[.slice yDw]
theorem pure_or {P:Program} {f:FuncId} {ps rs:List Ty} {F G:bG ps->Option (bG rs)} (h:Pure P f ps rs F) (h':Pure P f ps rs G):Pure P f ps rs (orF F G) :=
 ⟨h.1,fun x y e=>by
  unfold orF at e
  cases hF:F x with
  | some z=>rw [hF] at e; exact h.2 x y (hF.trans e)
  | none=>rw [hF] at e; exact h'.2 x y e⟩
theorem yDx {t:List nV} {a:List UInt8} (h:t.map (·.1)=[a]):∃ d,t=[(a,d,())]:=by
 match t,h with
 | [(x,d,_)],h=>simp at h; subst h; exact ⟨d,rfl⟩
theorem yDy {t:List nV} {a b:List UInt8} (h:t.map (·.1)=[a,b]):∃ d e,t=[(a,d,()),(b,e,())]:=by
 match t,h with
 | [(x,d,_),(y,e,_)],h=>simp at h; obtain ⟨rfl,rfl⟩:=h; exact ⟨d,e,rfl⟩
theorem len2 {bs:List Bool} (h:bs.length=2):∃ a b,bs=[a,b]:=by
 match bs,h with
 | [a,b],_=>exact ⟨a,b,rfl⟩
theorem yHg {bs:List Bool} (h:bs.length=3):∃ a b c,bs=[a,b,c]:=by
 match bs,h with
 | [a,b,c],_=>exact ⟨a,b,c,rfl⟩
theorem yDz {bs:List Bool} (h:bs.length=4):∃ a b c d,bs=[a,b,c,d]:=by
 match bs,h with
 | [a,b,c,d],_=>exact ⟨a,b,c,d,rfl⟩
noncomputable abbrev Yg (k:Nat) (bs:List Bool) (x:Lm × List nV):Option (List nV):=Rt Tryz.E 22 bR gF k bs x
theorem zUm (k code:Int) (quiet a b c d:Bool):Yg 2000 [a,b,c,d] ((qE [Yf (1,k,0,()) 113 [] code],quiet,[],false,()),[])=some []:=by
 cases a <;> cases b <;> cases c <;> cases d <;> kernel_rfl
theorem zQh (k code:Int) (quiet:Bool):rC bR ((qE [Yf (1,k,0,()) 113 [] code],quiet,[],false,()),[])=4:=by kernel_rfl
theorem zQi:Pure Tryz.prog 22 bR gF zNk:=by
 refine nU Tryz.E_ok (by kernel_rfl) fun (x:Lm × List nV) y hxy bs hbs=>?_
 obtain ⟨⟨scr,quiet,files,bad,_⟩,t⟩:=x
 unfold zNk at hxy
 split at hxy
 ·rename_i c hc
  split at hxy
  ·rename_i h
   obtain ⟨h1,h2,h3,h4⟩:=h
   simp only at h1 h2 h3 h4
   simp only [Option.some.injEq] at hxy
   subst h1 h2 h3 h4 hxy
   rw [zQh] at hbs
   obtain ⟨a,b,c,d,rfl⟩:=yDz hbs
   exact ⟨2000,zUm _ _ quiet a b c d⟩
  ·cases hxy
 ·cases hxy
theorem zUn (was:List UInt8) (quiet a b c:Bool):Yg 2000 [a,b,c] ((qE [Yf (0,0,0,()) 119 [102] 0],quiet,[],false,()),[([102],was,())])=some [([102],[],())]:=by
 cases a <;> cases b <;> cases c <;> kernel_rfl
theorem zQj (was:List UInt8) (quiet:Bool):rC bR ((qE [Yf (0,0,0,()) 119 [102] 0],quiet,[],false,()),[([102],was,())])=3:=by kernel_rfl
theorem zQk:Pure Tryz.prog 22 bR gF zUl:=by
 refine nU Tryz.E_ok (by kernel_rfl) fun (x:Lm × List nV) y hxy bs hbs=>?_
 obtain ⟨⟨scr,quiet,files,bad,_⟩,t⟩:=x
 unfold zUl at hxy
 split at hxy
 ·rename_i h
  obtain ⟨h1,h2,h3,h4⟩:=h
  simp only at h1 h2 h3 h4
  obtain ⟨was,rfl⟩:=yDx h4
  simp only [Option.some.injEq] at hxy
  subst h1 h2 h3 hxy
  rw [zQj] at hbs
  obtain ⟨a,b,c,rfl⟩:=yHg hbs
  exact ⟨2000,zUn was quiet a b c⟩
 ·cases hxy
theorem zQl (quiet a b c d:Bool):Yg 2000 [a,b,c,d] ((qE [],quiet,[],false,()),[])=some []:=by
 cases a <;> cases b <;> cases c <;> cases d <;> kernel_rfl
theorem zNl (quiet:Bool):rC bR ((qE [],quiet,[],false,()),[])=4:=by kernel_rfl
theorem zQm (u:List UInt8) (quiet a b:Bool):Yg 2000 [a,b] ((qE [],quiet,[[102]],false,()),[([102],u,())])=some [([102],rt u,())]:=by
 cases a <;> cases b <;> kernel_rfl
theorem zNm (u:List UInt8) (quiet:Bool):rC bR ((qE [],quiet,[[102]],false,()),[([102],u,())])=2:=by kernel_rfl
theorem zQn (u v:List UInt8) (quiet a b:Bool):Yg 2000 [a,b] ((qE [],quiet,[[102],[103]],false,()),[([102],u,()),([103],v,())])=some [([102],rt u,()),([103],rt v,())]:=by
 cases a <;> cases b <;> kernel_rfl
theorem zNn (u v:List UInt8) (quiet:Bool):rC bR ((qE [],quiet,[[102],[103]],false,()),[([102],u,()),([103],v,())])=2:=by kernel_rfl
theorem zQo (u v:List UInt8) (quiet a b:Bool):Yg 2000 [a,b] ((qE [],quiet,[[102],[110,111,110,101],[103]],false,()),[([102],u,()),([103],v,())])=some [([102],rt u,()),([103],rt v,())]:=by
 cases a <;> cases b <;> kernel_rfl
theorem zNo (u v:List UInt8) (quiet:Bool):rC bR ((qE [],quiet,[[102],[110,111,110,101],[103]],false,()),[([102],u,()),([103],v,())])=2:=by kernel_rfl
theorem zQp:Pure Tryz.prog 22 bR gF zNj:=by
 refine nU Tryz.E_ok (by kernel_rfl) fun (x:Lm × List nV) y hxy bs hbs=>?_
 obtain ⟨⟨scr,quiet,files,bad,_⟩,t⟩:=x
 unfold zNj at hxy
 split at hxy
 ·rename_i h
  obtain ⟨h1,h2,h3⟩:=h
  simp only at h1 h2 h3
  simp only [Option.some.injEq] at hxy
  rcases h3 with ⟨h3,h4⟩ | ⟨h3,h4⟩ | ⟨h3,h4⟩ | ⟨h3,h4⟩
  ·subst h1 h2 h3 h4 hxy
   rw [zNl] at hbs
   obtain ⟨a,b,c,d,rfl⟩:=yDz hbs
   exact ⟨2000,zQl quiet a b c d⟩
  ·obtain ⟨u,rfl⟩:=yDx h4
   subst h1 h2 h3 hxy
   rw [zNm] at hbs
   obtain ⟨a,b,rfl⟩:=len2 hbs
   exact ⟨2000,by rw [show Rt Tryz.E 22 bR gF 2000 [a,b] _=_ from zQm u quiet a b,rt_eq]⟩
  ·obtain ⟨u,v,rfl⟩:=yDy h4
   subst h1 h2 h3 hxy
   rw [zNn] at hbs
   obtain ⟨a,b,rfl⟩:=len2 hbs
   exact ⟨2000,by rw [show Rt Tryz.E 22 bR gF 2000 [a,b] _=_ from zQn u v quiet a b,rt_eq,rt_eq]⟩
  ·obtain ⟨u,v,rfl⟩:=yDy h4
   subst h1 h2 h3 hxy
   rw [zNo] at hbs
   obtain ⟨a,b,rfl⟩:=len2 hbs
   exact ⟨2000,by rw [show Rt Tryz.E 22 bR gF 2000 [a,b] _=_ from zQo u v quiet a b,rt_eq,rt_eq]⟩
 ·cases hxy
theorem Rv (n:Nat):Pure Tryz.prog 22 bR gF (qP n):=pure_or zQp (pure_or zQi zQk)
end Go.Dec
