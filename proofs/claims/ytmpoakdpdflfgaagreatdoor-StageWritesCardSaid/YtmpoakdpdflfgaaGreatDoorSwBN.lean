/- Part of a proof over this seat: a library of my own, and what it says of this seat. No statement is proved here. -/
import Derived.Test.YtmpoakdpdflfgaaGreatDoorSwBJ
import Derived.Test.YtmpoakdpdflfgaaGreatDoorSwBI
import Derived.Test.YtmpoakdpdflfgaaGreatDoorSwAX
import Derived.KernelRfl
namespace Go.Dec
abbrev NodD:Type:=Int × List Int × Int × Int × Int × Int × Int × Unit
abbrev AddD:Type:=Int × Int × Int × Unit
abbrev CmdD:Type:=(AddD × AddD × Bool × Unit) × Int × List UInt8 × List UInt8 × Int × Int × Int × List (List UInt8 × Int × Unit) × Bool × Bool × Unit
abbrev ScrD:Type:=Bool × List (List NodD × Bool × Unit) × List CmdD × Unit
abbrev StgD:Type:=ScrD × Bool × List (List UInt8) × Bool × Unit
abbrev FilD:Type:=List UInt8 × List UInt8 × Unit
def cmdD (r:AddD) (op:Int) (text:List UInt8) (n:Int):CmdD:=((r,(0,0,0,()),false,()),op,text,[],n,0,-1,[],false,false,())
def scrD (cs:List CmdD):ScrD:=(false,[],cs,())
section
open Classical
noncomputable def begA (x:StgD × List FilD):Option (List FilD) :=
 if x.1.1=scrD []∧x.1.2.2.2.1=false∧((x.1.2.2.1=[]∧x.2=[])∨(x.1.2.2.1=[[102]]∧x.2.map (·.1)=[[102]])∨(x.1.2.2.1=[[102],[103]]∧x.2.map (·.1)=[[102],[103]])∨(x.1.2.2.1=[[102],[110,111,110,101],[103]]∧x.2.map (·.1)=[[102],[103]])) then some x.2 else none
noncomputable def begQ (x:StgD × List FilD):Option (List FilD) :=
 match x.1.1.2.2.1 with
 | [c]=>if x.1.1=scrD [cmdD (1,c.1.1.2.1,0,()) 113 [] c.2.2.2.2.1]∧x.1.2.2.1=[]∧x.1.2.2.2.1=false∧x.2=[] then some [] else none
 | _=>none
noncomputable def begW (x:StgD × List FilD):Option (List FilD) :=
 if x.1.1=scrD [cmdD (0,0,0,()) 119 [102] 0]∧x.1.2.2.1=[]∧x.1.2.2.2.1=false∧x.2.map (·.1)=[[102]] then some [([102],[],())] else none
end
def orF {α β:Type} (F G:α->Option β) (x:α):Option β:=match F x with | some y=>some y | none=>G x
noncomputable def stage_Begin (_n:Nat) (x:StgD × List FilD):Option (List FilD):=orF begA (orF begQ begW) x
def table_SplitO (_n:Nat) (x:List UInt8 × Unit):Option (List (List UInt8 × Bool × Unit) × Unit):=chk (decide (x.1.length < 4294967281)) (some (splitL x.1,()))
end Go.Dec
namespace Go.Dec
open Go.Proofs Go.Ce
abbrev NodT:Ty:=.pair (.int .i64) (.pair (.arr 4 (.int .u64)) (.pair (.int .i64) (.pair (.int .i64) (.pair (.int .i64) (.pair (.int .i64) (.pair (.int .i64) .unit))))))
abbrev AddT:Ty:=.pair (.int .i64) (.pair (.int .i64) (.pair (.int .i64) .unit))
abbrev CmdT:Ty:=.pair (.pair AddT (.pair AddT (.pair .bool .unit))) (.pair (.int .u8) (.pair .str (.pair .str (.pair (.int .i64) (.pair (.int .i64) (.pair (.int .i64) (.pair (.slice (.pair .str (.pair (.int .i64) .unit))) (.pair .bool (.pair .bool .unit)))))))))
abbrev ScrT:Ty:=.pair .bool (.pair (.slice (.pair (.slice NodT) (.pair .bool .unit))) (.pair (.slice CmdT) .unit))
abbrev StgT:Ty:=.pair ScrT (.pair .bool (.pair (.slice .str) (.pair .bool .unit)))
abbrev FilT:Ty:=.pair .str (.pair .str .unit)
abbrev stage_BeginA:List Ty:=[StgT,.slice FilT]
abbrev stage_BeginR:List Ty:=[.slice FilT]
theorem pure_or {P:Program} {f:FuncId} {ps rs:List Ty} {F G:Dens ps->Option (Dens rs)} (h:Pure P f ps rs F) (h':Pure P f ps rs G):Pure P f ps rs (orF F G) :=
 ⟨h.1,fun x y e=>by
  unfold orF at e
  cases hF:F x with
  | some z=>rw [hF] at e; exact h.2 x y (hF.trans e)
  | none=>rw [hF] at e; exact h'.2 x y e⟩
theorem map1 {t:List FilD} {a:List UInt8} (h:t.map (·.1)=[a]):∃ d,t=[(a,d,())]:=by
 match t,h with
 | [(x,d,_)],h=>simp at h; subst h; exact ⟨d,rfl⟩
theorem map2 {t:List FilD} {a b:List UInt8} (h:t.map (·.1)=[a,b]):∃ d e,t=[(a,d,()),(b,e,())]:=by
 match t,h with
 | [(x,d,_),(y,e,_)],h=>simp at h; obtain ⟨rfl,rfl⟩:=h; exact ⟨d,e,rfl⟩
theorem len2 {bs:List Bool} (h:bs.length=2):∃ a b,bs=[a,b]:=by
 match bs,h with
 | [a,b],_=>exact ⟨a,b,rfl⟩
theorem len3 {bs:List Bool} (h:bs.length=3):∃ a b c,bs=[a,b,c]:=by
 match bs,h with
 | [a,b,c],_=>exact ⟨a,b,c,rfl⟩
theorem len4 {bs:List Bool} (h:bs.length=4):∃ a b c d,bs=[a,b,c,d]:=by
 match bs,h with
 | [a,b,c,d],_=>exact ⟨a,b,c,d,rfl⟩
noncomputable abbrev runB (k:Nat) (bs:List Bool) (x:StgD × List FilD):Option (List FilD):=runD Tryz.E 22 stage_BeginA stage_BeginR k bs x
theorem begQ_run (k code:Int) (quiet a b c d:Bool):runB 2000 [a,b,c,d] ((scrD [cmdD (1,k,0,()) 113 [] code],quiet,[],false,()),[])=some []:=by
 cases a <;> cases b <;> cases c <;> cases d <;> kernel_rfl
theorem begQ_emps (k code:Int) (quiet:Bool):empsV stage_BeginA ((scrD [cmdD (1,k,0,()) 113 [] code],quiet,[],false,()),[])=4:=by kernel_rfl
theorem begQ_pure:Pure Tryz.prog 22 stage_BeginA stage_BeginR begQ:=by
 refine pure_of_data Tryz.E_ok (by kernel_rfl) fun (x:StgD × List FilD) y hxy bs hbs=>?_
 obtain ⟨⟨scr,quiet,files,bad,_⟩,t⟩:=x
 unfold begQ at hxy
 split at hxy
 ·rename_i c hc
  split at hxy
  ·rename_i h
   obtain ⟨h1,h2,h3,h4⟩:=h
   simp only at h1 h2 h3 h4
   simp only [Option.some.injEq] at hxy
   subst h1 h2 h3 h4 hxy
   rw [begQ_emps] at hbs
   obtain ⟨a,b,c,d,rfl⟩:=len4 hbs
   exact ⟨2000,begQ_run _ _ quiet a b c d⟩
  ·cases hxy
 ·cases hxy
theorem begW_run (was:List UInt8) (quiet a b c:Bool):runB 2000 [a,b,c] ((scrD [cmdD (0,0,0,()) 119 [102] 0],quiet,[],false,()),[([102],was,())])=some [([102],[],())]:=by
 cases a <;> cases b <;> cases c <;> kernel_rfl
theorem begW_emps (was:List UInt8) (quiet:Bool):empsV stage_BeginA ((scrD [cmdD (0,0,0,()) 119 [102] 0],quiet,[],false,()),[([102],was,())])=3:=by kernel_rfl
theorem begW_pure:Pure Tryz.prog 22 stage_BeginA stage_BeginR begW:=by
 refine pure_of_data Tryz.E_ok (by kernel_rfl) fun (x:StgD × List FilD) y hxy bs hbs=>?_
 obtain ⟨⟨scr,quiet,files,bad,_⟩,t⟩:=x
 unfold begW at hxy
 split at hxy
 ·rename_i h
  obtain ⟨h1,h2,h3,h4⟩:=h
  simp only at h1 h2 h3 h4
  obtain ⟨was,rfl⟩:=map1 h4
  simp only [Option.some.injEq] at hxy
  subst h1 h2 h3 hxy
  rw [begW_emps] at hbs
  obtain ⟨a,b,c,rfl⟩:=len3 hbs
  exact ⟨2000,begW_run was quiet a b c⟩
 ·cases hxy
theorem begA0_run (quiet a b c d:Bool):runB 2000 [a,b,c,d] ((scrD [],quiet,[],false,()),[])=some []:=by
 cases a <;> cases b <;> cases c <;> cases d <;> kernel_rfl
theorem begA0_emps (quiet:Bool):empsV stage_BeginA ((scrD [],quiet,[],false,()),[])=4:=by kernel_rfl
theorem begA1_run (u:List UInt8) (quiet a b:Bool):runB 2000 [a,b] ((scrD [],quiet,[[102]],false,()),[([102],u,())])=some [([102],rt u,())]:=by
 cases a <;> cases b <;> kernel_rfl
theorem begA1_emps (u:List UInt8) (quiet:Bool):empsV stage_BeginA ((scrD [],quiet,[[102]],false,()),[([102],u,())])=2:=by kernel_rfl
theorem begA2_run (u v:List UInt8) (quiet a b:Bool):runB 2000 [a,b] ((scrD [],quiet,[[102],[103]],false,()),[([102],u,()),([103],v,())])=some [([102],rt u,()),([103],rt v,())]:=by
 cases a <;> cases b <;> kernel_rfl
theorem begA2_emps (u v:List UInt8) (quiet:Bool):empsV stage_BeginA ((scrD [],quiet,[[102],[103]],false,()),[([102],u,()),([103],v,())])=2:=by kernel_rfl
theorem begA3_run (u v:List UInt8) (quiet a b:Bool):runB 2000 [a,b] ((scrD [],quiet,[[102],[110,111,110,101],[103]],false,()),[([102],u,()),([103],v,())])=some [([102],rt u,()),([103],rt v,())]:=by
 cases a <;> cases b <;> kernel_rfl
theorem begA3_emps (u v:List UInt8) (quiet:Bool):empsV stage_BeginA ((scrD [],quiet,[[102],[110,111,110,101],[103]],false,()),[([102],u,()),([103],v,())])=2:=by kernel_rfl
theorem begA_pure:Pure Tryz.prog 22 stage_BeginA stage_BeginR begA:=by
 refine pure_of_data Tryz.E_ok (by kernel_rfl) fun (x:StgD × List FilD) y hxy bs hbs=>?_
 obtain ⟨⟨scr,quiet,files,bad,_⟩,t⟩:=x
 unfold begA at hxy
 split at hxy
 ·rename_i h
  obtain ⟨h1,h2,h3⟩:=h
  simp only at h1 h2 h3
  simp only [Option.some.injEq] at hxy
  rcases h3 with ⟨h3,h4⟩ | ⟨h3,h4⟩ | ⟨h3,h4⟩ | ⟨h3,h4⟩
  ·subst h1 h2 h3 h4 hxy
   rw [begA0_emps] at hbs
   obtain ⟨a,b,c,d,rfl⟩:=len4 hbs
   exact ⟨2000,begA0_run quiet a b c d⟩
  ·obtain ⟨u,rfl⟩:=map1 h4
   subst h1 h2 h3 hxy
   rw [begA1_emps] at hbs
   obtain ⟨a,b,rfl⟩:=len2 hbs
   exact ⟨2000,by rw [show runD Tryz.E 22 stage_BeginA stage_BeginR 2000 [a,b] _=_ from begA1_run u quiet a b,rt_eq]⟩
  ·obtain ⟨u,v,rfl⟩:=map2 h4
   subst h1 h2 h3 hxy
   rw [begA2_emps] at hbs
   obtain ⟨a,b,rfl⟩:=len2 hbs
   exact ⟨2000,by rw [show runD Tryz.E 22 stage_BeginA stage_BeginR 2000 [a,b] _=_ from begA2_run u v quiet a b,rt_eq,rt_eq]⟩
  ·obtain ⟨u,v,rfl⟩:=map2 h4
   subst h1 h2 h3 hxy
   rw [begA3_emps] at hbs
   obtain ⟨a,b,rfl⟩:=len2 hbs
   exact ⟨2000,by rw [show runD Tryz.E 22 stage_BeginA stage_BeginR 2000 [a,b] _=_ from begA3_run u v quiet a b,rt_eq,rt_eq]⟩
 ·cases hxy
theorem stage_Begin_pure (n:Nat):Pure Tryz.prog 22 stage_BeginA stage_BeginR (stage_Begin n):=pure_or begA_pure (pure_or begQ_pure begW_pure)
end Go.Dec
