/- Part of a proof over this seat: a library of my own, and what it says of this seat. No statement is proved here. -/
import Derived.Test.YtdgneppobefaoaaGreatDoorPartAD
import Derived.Lib.ConvBytes
import Derived.Lib.AppendStr
import Derived.Laws.BytesArg
namespace Go.Dec
def isM (o:Oper):Bool:=match o.op with
 | .makeMap .. => true
 | .insert .. => true
 | .mapUpdate .. => true
 | .lookup .. => true
 | .mapEntry .. => true
 | .entryStore .. => true
 | _=>false
def keyOf:V->Option MK
 | .one (.val (.int k) n)=>some (.i k n)
 | .one (.val .str s)=>some (.s s)
 | _=>none
def zOp:V->Option Nat
 | .one (.clo f [])=>some f
 | _=>none
def memT:List (MK × Nat)->MK->Bool
 | [],_=>false
 | (a,_) :: r,x=>MK.beq x a || memT r x
def tY (tk:TK) (x:MK):Bool:=match tk,x with
 | .int k,.i k' _=>decide (k=k')
 | .str,.s _=>true
 | _,_=>false
def wM (tk:TK):List (MK × Nat)->Bool
 | []=>true
 | (a,_) :: r=>tY tk a && wM tk r
def Ei (tk:TK) (kt:Ty):Bool:=match tk,kt with
 | .int k,.int k'=>decide (k=k')
 | .str,.str=>true
 | _,_=>false
def nN (kt:Ty) {α:Type}:List (kt.den × α)->kt.den->Option α
 | [],_=>none
 | e :: r,k=>match kt.beq k e.1 with
  | true=>some e.2
  | false=>nN kt r k
def mIdx (kt:Ty) {α:Type}:List (kt.den × α)->kt.den->Nat
 | [],_=>0
 | e :: r,k=>match kt.beq k e.1 with
  | true=>0
  | false=>mIdx kt r k+1
def tZ (kt:Ty) {α:Type} (d:α) (es:List (kt.den × α)) (k:kt.den):α:=match nN kt es k with
 | some v=>v
 | none=>d
def zAd (kt:Ty) {α:Type} (es:List (kt.den × α)) (k:kt.den):Bool:=match nN kt es k with
 | some _=>true
 | none=>false
def zHh (kt:Ty) {α:Type} (es:List (kt.den × α)) (k:kt.den) (v:α):List (kt.den × α):=match nN kt es k with
 | some _=>es.set (mIdx kt es k) (k,v)
 | none=>es++[(k,v)]
def zOq (kt:Ty) {α:Type} (es:List (kt.den × α)) (i:Int) (v:α):List (kt.den × α):=match es[i.toNat]? with
 | some e=>es.set i.toNat (e.1,v)
 | none=>es
def toTy (t:Ty) (v:V):Option t.den :=
 match t.isAgg,v with
 | true,.agg ls=>match bJ t ls with
  | some (x,[])=>some x
  | _=>none
 | false,.one l=>l.asT t
 | _,_=>none
def Yy (t:Ty) (x:t.den):Sum L (List L) :=
 match t.isAgg with
 | true=>.inr (explode t x)
 | false=>.inl (.val t x)
def valTy (t:Ty) (x:t.den):V :=
 match t.isAgg with
 | true=>.agg (explode t x)
 | false=>.one (.val t x)
def Qs (ti:TI) (t:Ty):Option t.den :=
 match ti.k.isAgg == t.isAgg,bJ t ti.zls with
 | true,some (x,[])=>some x
 | _,_=>none
def Ui (T:Tab) (σ:St) (t:TypeId) (m k x:Operand):Option (Bool × V × List Ob) :=
 match T.get t,ovl σ m with
 | some ti,.one (.mp id)=>match ti.k,σ.h[id]? with
  | .map kt _,some (.fm tab)=>match T.get kt,keyOf (ovl σ k),zOp (ovl σ x) with
   | some tk,some key,some f=>match tY tk.k key && (wM tk.k tab && !memT tab key) with
    | true=>some (true,.tup [],σ.h.set id (.fm (tab++[(key,f)])))
    | false=>none
   | _,_,_=>none
  | .map kt _,some (.dm kty vty es)=>match T.get kt,toTy kty (ovl σ k),toTy vty (ovl σ x) with
   | some tk,some key,some v=>match Ei tk.k kty with
    | true=>some (true,.tup [],σ.h.set id (.dm kty vty (zHh kty es key v)))
    | false=>none
   | _,_,_=>none
  | _,_=>none
 | _,_=>none
def stepM (T:Tab) (σ:St) (o:Oper):Option (Bool × V × List Ob) :=
 match o.op with
 | .makeMap t none=>match T.get t with
  | some ti=>match ti.k with
   | .map kt et=>match T.get kt,T.get et with
    | some tk,some te=>match te.k with
     | .func=>some (true,.one (.mp σ.h.length),σ.h++[.fm []])
     | _=>match tk.ty,te.ty with
      | some kty,some vty=>some (true,.one (.mp σ.h.length),σ.h++[.dm kty vty []])
      | _,_=>none
    | _,_=>none
   | _=>none
  | none=>none
 | .insert t m k x=>Ui T σ t m k x
 | .mapUpdate t m k x=>Ui T σ t m k x
 | .lookup t m k ok=>match T.get t,ovl σ m with
  | some ti,.one (.mp id)=>match ti.k,σ.h[id]? with
   | .map kt et,some (.fm tab)=>match ok,keyOf (ovl σ k),T.get kt,T.get et with
    | true,some key,some tk,some te=>match tY tk.k key && (wM tk.k tab && !te.k.isAgg),te.zls with
     | true,[.val .opq .nilFunc]=>some (true,.tup [.inl (.xE key tab),.inl (.val .bool (memT tab key))],σ.h)
     | _,_=>none
    | _,_,_,_=>none
   | .map kt et,some (.dm kty vty es)=>match toTy kty (ovl σ k),T.get kt,T.get et with
    | some key,some tk,some te=>match Ei tk.k kty,Qs te vty with
     | true,some z=>match ok with
      | true=>some (true,.tup [Yy vty (tZ kty z es key),.inl (.val .bool (zAd kty es key))],σ.h)
      | false=>some (true,valTy vty (tZ kty z es key),σ.h)
     | _,_=>none
    | _,_,_=>none
   | _,_=>none
  | _,_=>none
 | .mapEntry t m k=>match T.get t,ovl σ m with
  | some ti,.one (.mp id)=>match ti.k,σ.h[id]? with
   | .map kt et,some (.dm kty vty es)=>match toTy kty (ovl σ k),T.get kt,T.get et with
    | some key,some tk,some te=>match Ei tk.k kty,Qs te vty with
     | true,some z=>some (true,.tup [Yy vty (tZ kty z es key),.inl (.val (.int .i64) (mIdx kty es key:Nat))],σ.h.set id (.dm kty vty (zHh kty es key (tZ kty z es key))))
     | _,_=>none
    | _,_,_=>none
   | _,_=>none
  | _,_=>none
 | .entryStore _ m s x=>match ovl σ m,ovl σ s with
  | .one (.mp id),.one (.val (.int .i64) i)=>match σ.h[id]? with
   | some (.dm kty vty es)=>match toTy vty (ovl σ x) with
    | some v=>some (inB i es.length,.tup [],σ.h.set id (.dm kty vty (zOq kty es i v)))
    | none=>none
   | _=>none
  | _,_=>none
 | _=>none
section
variable {β:Nat->Pl} {w:World} {T:Tab} {C:Ctx}
theorem bytes_beq (b c:List UInt8):((⟨b.toArray⟩:ByteArray) == ⟨c.toArray⟩)=(b == c):=by
 show (b.toArray == c.toArray)=_
 rw [Bool.eq_iff_iff]
 simp
theorem zAe {d:TypeDesc} {x a:MK} (hx:tY (TK.of d) x=true) (ha:tY (TK.of d) a=true):Instr.sameNow d x.v a.v=some (MK.beq x a):=by
 cases d <;> simp only [TK.of,tY] at hx ha <;> try (cases x <;> simp at hx)
 ·cases a <;> simp at ha
  subst hx ha
  simp [Instr.sameNow,MK.v,MK.beq]
 ·cases a <;> simp at ha
  simp only [Instr.sameNow,MK.v,MK.beq,bytes_beq]
def mR (q:MK × Nat):Value × Value:=(q.1.v,.func (.func q.2) #[] #[])
theorem Iw:∀ (tab:List (MK × Nat)) (x:MK),memT tab x=(fG tab x).isSome
 | [],_=>rfl
 | (a,f) :: r,x=>by
  simp only [memT,fG]
  cases h:MK.beq x a
  ·simp [Iw r x]
  ·simp
theorem MK.beq_iff {x a:MK}:MK.beq x a=true <-> x=a:=by
 cases x <;> cases a <;> simp [MK.beq]
theorem Iy:∀ {tab:List (MK × Nat)} {x:MK} {f:Nat},fG tab x=some f->(x,f) ∈ tab
 | [],x,f,h=>by simp [fG] at h
 | (a,g) :: r,x,f,h=>by
  simp only [fG] at h
  split at h
  ·rename_i hb
   simp only [aA] at h
   rw [MK.beq_iff.1 hb,h]
   exact List.mem_cons_self ..
  ·exact List.mem_cons_of_mem _ (Iy h)
theorem zLj {tab:List (MK × Nat)} {x y:MK} {f g:Nat} (h:fG tab x=some f):fG (tab++[(y,g)]) x=some f:=by
 induction tab with
 | nil=>simp [fG] at h
 | cons q r ih =>
  obtain ⟨a,k⟩:=q
  simp only [List.cons_append,fG] at *
  split
  ·rename_i hb; rw [if_pos hb] at h; exact h
  ·rename_i hb; rw [if_neg hb] at h; exact ih h
theorem zLk {tab:List (MK × Nat)} {x:MK} {f:Nat} (h:fG tab x=none):fG (tab++[(x,f)]) x=some f:=by
 induction tab with
 | nil=>simp [fG,MK.beq_iff.2 rfl]
 | cons q r ih =>
  obtain ⟨a,k⟩:=q
  simp only [List.cons_append,fG] at *
  split
  ·rename_i hb; rw [if_pos hb] at h; cases h
  ·rename_i hb; rw [if_neg hb] at h; exact ih h
theorem Qt {tk:TK}:∀ {tab:List (MK × Nat)},wM tk tab=true <-> ∀ q ∈ tab,tY tk q.1=true
 | []=>by simp [wM]
 | (a,f) :: r=>by simp [wM,Qt (tab:=r)]
theorem MK.zXe {x y:MK} (h:x.v=y.v):x=y:=by
 cases x <;> cases y <;> simp [MK.v] at h
 ·obtain ⟨rfl,rfl⟩:=h; rfl
 ·exact congrArg MK.s h
theorem Qu {d:TypeDesc} {x:MK} (hx:tY (TK.of d) x=true) {tab:List (MK × Nat)} (hk:wM (TK.of d) tab=true):∀ (es:List MapEntry) (i:Nat),(∀ e ∈ es,∃ x f,e.key=x.v∧e.val=.func (.func f) #[] #[]∧fG tab x=some f) ->
  (∃ j f,Instr.findNow d x.v es i=some (some (j,.func (.func f) #[] #[]))∧fG tab x=some f)∨(Instr.findNow d x.v es i=some none∧∀ e ∈ es,e.key ≠ x.v)
 | [],i,_=>.inr ⟨rfl,fun e he=>by cases he⟩
 | e :: es,i,h=>by
  obtain ⟨a,f,h1,h2,h3⟩:=h e (List.mem_cons_self ..)
  have ha:=Qt.1 hk _ (Iy h3)
  simp only [Instr.findNow,h1,zAe hx ha]
  cases hb:MK.beq x a
  ·simp only [Bool.false_eq_true,if_false]
   rcases Qu hx hk es (i+1) (fun e he=>h e (List.mem_cons_of_mem _ he)) with h4 | ⟨h4,h5⟩
   ·exact .inl h4
   ·refine .inr ⟨h4,fun e' he'=>?_⟩
    rcases List.mem_cons.1 he' with rfl | he'
    ·rw [h1]
     intro hc
     rw [MK.beq_iff.2 (MK.zXe hc).symm] at hb
     cases hb
    ·exact h5 e' he'
  ·obtain rfl:=MK.beq_iff.1 hb
   exact .inl ⟨i,f,by simp only [h2,if_true],h3⟩
theorem Ms {d:TypeDesc} {x:MK} (hx:tY (TK.of d) x=true) {tab:List (MK × Nat)} (hk:wM (TK.of d) tab=true) {es:List MapEntry} (hF:Qn tab es) :
  ∃ r,Instr.findNow d x.v es 0=some r∧(match fG tab x with | some f=>∃ j,r=some (j,.func (.func f) #[] #[]) | none=>r=none):=by
 rcases Qu hx hk es 0 hF.1 with ⟨j,f,h1,h2⟩ | ⟨h1,h2⟩
 ·exact ⟨_,h1,by rw [h2]; exact ⟨j,rfl⟩⟩
 ·refine ⟨none,h1,?_⟩
  cases hf:fG tab x with
  | none=>rfl
  | some f =>
   obtain ⟨e,he,hk⟩:=hF.2 _ (Iy hf)
   exact absurd hk (h2 e he)
theorem kQ {P:Program} {t:TypeId} {d:TypeDesc} {x:MK} {b:Bool} {n:Nat} (hu:P.underlying t=some d) (hx:tY (TK.of d) x=true):(Instr.checkKey b (n+1) t x.v).run P w=.ok () w:=by
 have hr:(underlying t).run P w=.ok d w:=by simp [underlying,hu]
 simp only [Instr.checkKey,Sem.run_bind,hr,Result.andThen_ok]
 cases d <;> simp only [TK.of,tY] at hx <;> try (cases x <;> simp at hx)
 all_goals simp [MK.v]
theorem Wx {v:V} {key:MK} {x:Value} {N:Nat->Nat->Prop} (h:keyOf v=some key) (hr:v.Rel β w N x):x=key.v:=by
 unfold keyOf at h
 split at h
 ·simp only [aA] at h
  subst h
  simp only [V.Rel,L.Rel,Ty.Rel,aK,and_true] at hr
  exact hr
 ·simp only [aA] at h
  subst h
  simp only [V.Rel,L.Rel,Ty.Rel,aK,and_true] at hr
  exact hr
 ·cases h
theorem zOr {v:V} {f:Nat} {x:Value} {N:Nat->Nat->Prop} (h:zOp v=some f) (hr:v.Rel β w N x):x=.func (.func f) #[] #[]:=by
 unfold zOp at h
 split at h
 ·simp only [aA] at h
  subst h
  simp only [V.Rel,L.Rel,L.bP] at hr
  obtain ⟨us,hx,rfl⟩:=hr
  simpa [Ub] using hx
 ·cases h
theorem toTy_rel {t:Ty} {v:V} {x:t.den} {u:Value} {N:Nat->Nat->Prop} (h:toTy t v=some x) (hr:v.Rel β w N u):t.bK w N x u:=by
 unfold toTy at h
 unfold Ty.bK
 cases ha:t.isAgg with
 | true =>
  rw [ha] at h
  cases v with
  | agg ls =>
   simp only at h
   split at h
   ·rename_i y hy
    simp only [aA] at h
    subst h
    obtain ⟨cs,rfl,hr⟩:=hr
    obtain ⟨c1,c2,e,h1,h2⟩:=kK hy hr
    simp only [aL] at h2
    subst h2
    rw [List.append_nil] at e
    rw [if_pos rfl]
    exact ⟨cs,rfl,by rw [e]; exact h1⟩
   ·cases h
  | _=>simp at h
 | false =>
  rw [ha] at h
  cases v with
  | one l =>
   simp only at h
   rw [if_neg (by simp)]
   exact L.Kw h hr
  | _=>simp at h
theorem Iz {t:Ty} {x:t.den} {u:Value} {N:Nat->Nat->Prop} (h:t.bK w N x u):dP β w N (Yy t x) u:=by
 unfold Yy
 unfold Ty.bK at h
 cases ha:t.isAgg with
 | true =>
  rw [ha,if_pos rfl] at h
  obtain ⟨cs,e,h⟩:=h
  exact ⟨cs,e,fE h⟩
 | false =>
  rw [ha,if_neg (by simp)] at h
  simp only [dP,L.Rel]
  exact h
theorem zLl {t:Ty} {x:t.den} {u:Value} {N:Nat->Nat->Prop} (h:t.bK w N x u):(valTy t x).Rel β w N u:=by
 unfold valTy
 unfold Ty.bK at h
 cases ha:t.isAgg with
 | true =>
  rw [ha,if_pos rfl] at h
  obtain ⟨cs,e,h⟩:=h
  exact ⟨cs,e,fE h⟩
 | false =>
  rw [ha,if_neg (by simp)] at h
  simp only [V.Rel,L.Rel]
  exact h
theorem Qv {P:Program} {et:TypeId} {te:TI} {vt:Ty} {z:vt.den} (hok:iW P et te) (h:Qs te vt=some z) (w:World) (N:Nat->Nat->Prop) :
  ∃ u,(zeroValue et).run P w=.ok u w∧vt.bK w N z u:=by
 unfold Qs at h
 split at h
 ·rename_i y hag hy
  simp only [aA] at h
  subst h
  obtain ⟨i0,u,hi0,his,hib,hz0,kP,hzs,zHi⟩:=hok.i
  refine ⟨u,by simp [zeroValue,typeInfo,hi0,hz0],?_⟩
  obtain ⟨c1,c2,e,h1,h2⟩:=kK hy (kP (fun _=>⟨false,false,0,none,0,0,0,[]⟩) w N)
  simp only [aL] at h2
  subst h2
  rw [List.append_nil] at e
  have hag:=(beq_iff_eq.1 hag).symm.trans zHi
  unfold Ty.bK
  rw [hag]
  cases u <;> simp only [lJ,Bool.false_eq_true,if_false,if_true]
  case agg cs=>exact ⟨cs.toList,by simp,by simpa [Value.cells] using e ▸ h1⟩
  all_goals (simp only [Value.cells] at e; rw [show ([_]:List Value)=c1 from e]; exact h1)
 ·cases h
theorem Oc {dk:TypeDesc} {kt:Ty} (hk:Ei (TK.of dk) kt=true) {N:Nat->Nat->Prop} {x:kt.den} {u:Value} (h:kt.bK w N x u) :
  (∃ (j:IntKind) (n:Int),kt=.int j∧dk=.int j∧u=.int j n∧HEq x n)∨(∃ s:List UInt8,kt=.str∧dk=.string∧u=.string ⟨s.toArray⟩∧HEq x s):=by
 cases dk <;> simp only [TK.of,Ei] at hk <;> try (cases kt <;> simp at hk)
 ·subst hk
  simp only [Ty.bK,Ty.isAgg,Bool.false_eq_true,if_false,Ty.Rel,aK,and_true] at h
  exact .inl ⟨_,x,rfl,rfl,h,HEq.rfl⟩
 ·simp only [Ty.bK,Ty.isAgg,Bool.false_eq_true,if_false,Ty.Rel,aK,and_true] at h
  exact .inr ⟨x,rfl,rfl,h,HEq.rfl⟩
theorem Bu {P:Program} {t:TypeId} {dk:TypeDesc} {kt:Ty} {b:Bool} {n:Nat} (hu:P.underlying t=some dk) (hk:Ei (TK.of dk) kt=true) {N:Nat->Nat->Prop} {x:kt.den} {u:Value} (h:kt.bK w N x u) :
  (Instr.checkKey b (n+1) t u).run P w=.ok () w:=by
 have hr:(underlying t).run P w=.ok dk w:=by simp [underlying,hu]
 simp only [Instr.checkKey,Sem.run_bind,hr,Result.andThen_ok]
 rcases Oc hk h with ⟨j,m,_,rfl,rfl,_⟩ | ⟨s,_,rfl,rfl,_⟩ <;> rfl
theorem zHj {dk:TypeDesc} {kt:Ty} (hk:Ei (TK.of dk) kt=true) {N:Nat->Nat->Prop} {x y:kt.den} {u v:Value} (hx:kt.bK w N x u) (hy:kt.bK w N y v):Instr.sameNow dk u v=some (kt.beq x y):=by
 rcases Oc hk hx with ⟨j,m,e,rfl,rfl,hm⟩ | ⟨s,e,rfl,rfl,hm⟩
 ·subst e
  simp only [Ty.bK,Ty.isAgg,Bool.false_eq_true,if_false,Ty.Rel,aK,and_true] at hy
  obtain rfl:=eq_of_heq hm
  subst hy
  simp [Instr.sameNow,Ty.beq,Ty.beq.Int.beq']
 ·subst e
  simp only [Ty.bK,Ty.isAgg,Bool.false_eq_true,if_false,Ty.Rel,aK,and_true] at hy
  obtain rfl:=eq_of_heq hm
  subst hy
  simp only [Instr.sameNow,bytes_beq,Ty.beq,Ty.beq.List.beq']
theorem Mt {dk:TypeDesc} {kt:Ty} (hk:Ei (TK.of dk) kt=true) {N:Nat->Nat->Prop} {x y:kt.den} {u v:Value} (hx:kt.bK w N x u) (hy:kt.bK w N y v) (hb:kt.beq x y=true):Instr.sameBits 10000 v u=true:=by
 rcases Oc hk hx with ⟨j,m,e,rfl,rfl,hm⟩ | ⟨s,e,rfl,rfl,hm⟩
 ·subst e
  simp only [Ty.bK,Ty.isAgg,Bool.false_eq_true,if_false,Ty.Rel,aK,and_true] at hy
  obtain rfl:=eq_of_heq hm
  subst hy
  simp only [Ty.beq,Ty.beq.Int.beq',beq_iff_eq] at hb
  subst hb
  simp [Instr.sameBits]
 ·subst e
  simp only [Ty.bK,Ty.isAgg,Bool.false_eq_true,if_false,Ty.Rel,aK,and_true] at hy
  obtain rfl:=eq_of_heq hm
  subst hy
  simp only [Ty.beq,Ty.beq.List.beq',beq_iff_eq] at hb
  subst hb
  simp only [Instr.sameBits,bytes_beq,beq_self_eq_true]
theorem yA {dk:TypeDesc} {kt vt:Ty} (hk:Ei (TK.of dk) kt=true) {N:Nat->Nat->Prop} {x:kt.den} {u:Value} (hx:kt.bK w N x u) :
  ∀ (es:List (kt.den × vt.den)) (ms:List MapEntry) (i:Nat),aQ (fun (x:kt.den × vt.den) (m:MapEntry)=>kt.bK w N x.1 m.key∧vt.bK w N x.2 m.val) es ms ->
   match nN kt es x with
   | some y=>∃ m e,Instr.findNow dk u ms i=some (some (i+mIdx kt es x,m.val))∧ms[mIdx kt es x]?=some m∧es[mIdx kt es x]?=some e∧e.2=y∧vt.bK w N y m.val∧kt.bK w N e.1 m.key∧kt.beq x e.1=true
   | none=>Instr.findNow dk u ms i=some none
 | [],[],i,_=>by simp [nN,Instr.findNow]
 | [],_ :: _,_,h=>h.elim
 | _ :: _,[],_,h=>h.elim
 | e :: es,m :: ms,i,h=>by
  obtain ⟨⟨h1,h2⟩,h3⟩:=h
  simp only [nN,mIdx,Instr.findNow,zHj hk hx h1]
  cases hb:kt.beq x e.1 with
  | true=>exact ⟨m,e,rfl,rfl,rfl,rfl,h2,h1,hb⟩
  | false =>
   have ih:=yA hk hx es ms (i+1) h3
   simp only
   cases hf:nN kt es x with
   | none=>rw [hf] at ih; exact ih
   | some y =>
    rw [hf] at ih
    obtain ⟨m',e',g1,g2,g3,g4,g5,g6,g7⟩:=ih
    exact ⟨m',e',by rw [g1]; congr 3; omega,by simpa using g2,by simpa using g3,g4,g5,g6,g7⟩
theorem iL.size {N:Nat->Nat->Prop} {kt vt:Ty} {es:List (kt.den × vt.den)} {ms:Array MapEntry} (h:iL w N kt vt es ms):es.length=ms.size:=by
 rw [h.1.length]; simp
theorem iL.push {N:Nat->Nat->Prop} {kt vt:Ty} {es:List (kt.den × vt.den)} {ms:Array MapEntry} {x:kt.den} {y:vt.den} {u v:Value} (h:iL w N kt vt es ms) (hx:kt.bK w N x u) (hy:vt.bK w N y v) :
  iL w N kt vt (es++[(x,y)]) (ms.push { key:=u,val:=v,born:=ms.size }):=by
 refine ⟨by rw [Array.toList_push]; exact h.1.append ⟨⟨hx,hy⟩,trivial⟩,fun i m hm=>?_⟩
 rw [Array.getElem?_push] at hm
 split at hm
 ·rename_i e
  simp only [aA] at hm
  subst hm
  exact e.symm
 ·exact h.2 i m hm
theorem iL.put {N:Nat->Nat->Prop} {kt vt:Ty} {es:List (kt.den × vt.den)} {ms:Array MapEntry} {x:kt.den} {y:vt.den} {i:Nat} {m:MapEntry} {f:MapEntry->MapEntry} (h:iL w N kt vt es ms) (hm:ms[i]?=some m)
  (hb:(f m).born=m.born) (hx:kt.bK w N x (f m).key) (hy:vt.bK w N y (f m).val):iL w N kt vt (es.set i (x,y)) (ms.modify i f):=by
 have hml:(ms.modify i f).toList=ms.toList.set i (f m):=by
  apply List.ext_getElem?
  intro j
  rw [Array.getElem?_toList,Array.getElem?_modify,List.getElem?_set]
  have hi:i < ms.size:=(Array.getElem?_eq_some_iff.1 hm).1
  by_cases hij:i=j
  ·subst hij
   obtain ⟨_,he⟩:=Array.getElem?_eq_some_iff.1 hm
   simp [hi,he]
  ·simp [hij]
 refine ⟨by rw [hml]; exact h.1.set i ⟨hx,hy⟩,fun j m' hm'=>?_⟩
 rw [Array.getElem?_modify] at hm'
 split at hm'
 ·rename_i e
  subst e
  rw [hm] at hm'
  simp only [Option.map_some,aA] at hm'
  subst hm'
  rw [hb]; exact h.2 i m hm
 ·exact h.2 j m' hm'
theorem findIdx_born {ms:Array MapEntry} (hb:∀ (i:Nat) (m:MapEntry),ms[i]?=some m->m.born=i) {i:Nat} (hi:i < ms.size):ms.findIdx? (fun e=>(e.born:Int) == (i:Int))=some i:=by
 rw [Array.findIdx?_eq_some_iff_getElem]
 refine ⟨hi,?_,fun j hj=>?_⟩
 ·have:=hb i ms[i] (by simp [hi])
  simp [this]
 ·have:=hb j ms[j] (by simp)
  simp [this]
  try omega
def World.iR (w:World) (b:Nat) (ms:Array MapEntry) (n:Nat):World:={ w with heap:=w.heap.setIfInBounds b (.map ms n) }
theorem vR {b n:Nat} {ms:Array MapEntry}:Keep (fun k _=>k=b) w (World.iR w b ms n):=Keep.qU (M:=fun k=>k=b) (by simp [World.iR]) (fun k _ hn=>by simp only [World.iR]; rw [Array.getElem?_setIfInBounds_ne (fun e=>hn e.symm)]) (fun _ _ h=>h)
theorem Wy {b n:Nat} {ms:Array MapEntry} (hb:b < w.heap.size):(World.iR w b ms n).heap[b]?=some (.map ms n):=by
 simp only [World.iR]; rw [Array.getElem?_setIfInBounds_self_of_lt hb]
theorem Sim.Qw {σ:St} {a:Act} {id b:Nat} {kt vt:Ty} {es es':List (kt.den × vt.den)} {ms ms':Array MapEntry} (hs:Sim C β σ a w) (hob:σ.h[id]?=some (.dm kt vt es)) (ho:(β id).blk=some b) (hm:w.heap[b]?=some (.map ms ms.size))
  (he:iL w (C.N β σ.h) kt vt es' ms'):Moves β β∧Keep (C.N β σ.h) w (World.iR w b ms' ms'.size)∧Sim C β { σ with h:=σ.h.set id (.dm kt vt es') } a (World.iR w b ms' ms'.size):=by
 have hb:b < w.heap.size:=(Array.getElem?_eq_some_iff.1 hm).1
 have hO:=hs.heap.obj id _ hob
 simp only [Ob.Rel] at hO
 obtain ⟨o1,o2,_⟩:=hO
 have hm0:Moves β (upd β id (β id)):=by rw [nM]; exact Moves.refl β
 have hkN:Keep (C.N β σ.h) w (World.iR w b ms' ms'.size):=vR.weaken fun k j hk=>.inr ⟨id,_,hob,rfl,Ob.lI (by rw [hk]; exact ho)⟩
 have uT:=hs.set (id:=id) (o:=.dm kt vt es') (p:=β id) (w':=World.iR w b ms' ms'.size) hob (fun _=>rfl) (.inl rfl) (vR.weaken fun k _ hk=>by subst hk; exact ⟨ho,rfl⟩) ⟨rfl,rfl,rfl⟩ hm0 (by
  simp only [Ob.Rel]
  refine ⟨o1,o2,b,ms',ho,Wy hb,he.mono hkN fun k j _ hn=>?_⟩
  exact nL (id:=id) (p:=β id) hob (at_set (fun _=>rfl) (.inl rfl) rfl) (by assumption) hn)
 rw [nM] at uT
 exact ⟨Moves.refl β,hkN,uT⟩
theorem Cz {P:Program} {t kt et:TypeId} {ti:TI} (hok:iW P t ti) (hk:ti.k=.map kt et):P.underlying t=some (.map kt et):=by
 obtain ⟨d,hd,hdk⟩:=hok.und
 rw [hk] at hdk
 cases d <;> simp [TK.of] at hdk
 obtain ⟨rfl,rfl⟩:=hdk
 exact hd
theorem Qx {σ:St} {a:Act} {m:Operand} {id:Nat} (hs:Sim C β σ a w) (hm:ovl σ m=.one (.mp id)):∃ b,(β id).blk=some b∧a.eval m=.map (some b):=by
 have hmv:=aP hs m
 rw [hm] at hmv
 simp only [V.Rel,L.Rel] at hmv
 obtain ⟨_,_,b,e1,e2⟩:=hmv
 exact ⟨b,e1,by simpa using e2⟩
theorem zAf {σ:St} {a:Act} {o:Oper} {t:TypeId} {m k x:Operand} {v:V} {h':List Ob} (hT:aU C.P T) (hs:Sim C β σ a w) (ho:(execOp a.eval o).run C.P w=(do Instr.mapUpdate t (a.eval m) (a.eval k) (a.eval x); pure Next.skip:Sem Next).run C.P w)
  (h:Ui T σ t m k x=some (true,v,h')):After C β σ a w o v h':=by
 unfold Ui at h
 split at h
 ·rename_i ti id hti hm
  obtain ⟨b,hbl,e2⟩:=Qx hs hm
  split at h
  ·rename_i kt et tab hk hob
   split at h
   ·rename_i tk key f htk hkey hf
    split at h
    ·rename_i hb
     simp only [aF,Bool.not_eq_true'] at hb
     obtain ⟨b1,b2,b3⟩:=hb
     simp only [aA,aB,true_and] at h
     obtain ⟨rfl,rfl⟩:=h
     have hd:=Cz (hT _ _ hti) hk
     obtain ⟨dk,uD,Ej⟩:=(hT _ _ htk).und
     have hO:=hs.heap.obj id _ hob
     simp only [Ob.Rel] at hO
     obtain ⟨o1,o2,b',es,n,o3,o4,o5⟩:=hO
     rw [hbl] at o3
     obtain rfl:=Option.some.inj o3
     have hkv:=Wx hkey (aP hs k)
     have hfv:=zOr hf (aP hs x)
     have hnone:fG tab key=none:=by
      have:=Iw tab key
      rw [b3] at this
      cases hq:fG tab key with
      | none=>rfl
      | some q=>rw [hq] at this; simp at this
     rw [<- Ej] at b1 b2
     obtain ⟨r,hr,hr2⟩:=Ms b1 b2 o5
     rw [hnone] at hr2
     subst hr2
     have hb:b < w.heap.size:=(Array.getElem?_eq_some_iff.1 o4).1
     let ne:MapEntry:={ key:=key.v,val:=.func (.func f) #[] #[],born:=n }
     have hu1:(underlying t).run C.P w=.ok (.map kt et) w:=by simp [underlying,hd]
     have hu2:(underlying kt).run C.P w=.ok dk w:=by simp [underlying,uD]
     have hget:(getObj b).run C.P w=.ok (.map es n) w:=by simp [getObj,Sem.run,o4]
     have hset:(setObj b (.map (es.push ne) (n+1))).run C.P w=.ok () (World.iR w b (es.push ne) (n+1)):=by simp [setObj,Sem.run,o4,World.iR]
     have hck:=kQ (w:=w) (b:=false) (n:=9999) uD b1
     have hm0:Moves β (upd β id (β id)):=by rw [nM]; exact Moves.refl β
     have uT:=hs.set (id:=id) (o:=.fm (tab++[(key,f)])) (p:=β id) (w':=World.iR w b (es.push ne) (n+1)) hob (fun _=>rfl) (.inl rfl) (vR.weaken fun k _ hk=>by subst hk; exact ⟨hbl,rfl⟩) ⟨rfl,rfl,rfl⟩ hm0 (by
      simp only [Ob.Rel]
      refine ⟨o1,o2,b,es.push ne,n+1,hbl,Wy hb,fun e he=>?_,fun q hq=>?_⟩
      ·rw [Array.toList_push] at he
       rcases List.mem_append.1 he with he | he
       ·obtain ⟨x',f',g1,g2,g3⟩:=o5.1 e he
        exact ⟨x',f',g1,g2,zLj g3⟩
       ·obtain rfl:=List.mem_singleton.1 he
        exact ⟨key,f,rfl,rfl,zLk hnone⟩
      ·rw [Array.toList_push]
       rcases List.mem_append.1 hq with hq | hq
       ·obtain ⟨e,he,g⟩:=o5.2 q hq
        exact ⟨e,List.mem_append_left _ he,g⟩
       ·obtain rfl:=List.mem_singleton.1 hq
        exact ⟨ne,List.mem_append_right _ (List.mem_singleton.2 rfl),rfl⟩)
     rw [nM] at uT
     refine ⟨β,_,.skip,undef,?_,.inr ⟨rfl,rfl⟩,Moves.refl β,vR.weaken fun k _ hk=>.inr ⟨id,_,hob,rfl,Ob.lI (by rw [hk]; exact hbl)⟩,uT,?_⟩
     ·rw [ho]
      simp only [e2,hkv,hfv,Instr.mapUpdate,Sem.run_bind,hu1,Result.andThen_ok,hget,hck,Instr.findKey,hu2,hr,Sem.run_pure,hset,ne]
     ·exact ⟨[],rfl,trivial⟩
    ·cases h
   ·cases h
  ·rename_i kt et kty vty es hk hob
   split at h
   ·rename_i tk key y htk hkey hy
    split at h
    ·rename_i b1
     simp only [aA,aB,true_and] at h
     obtain ⟨rfl,rfl⟩:=h
     have hd:=Cz (hT _ _ hti) hk
     obtain ⟨dk,uD,Ej⟩:=(hT _ _ htk).und
     have hO:=hs.heap.obj id _ hob
     simp only [Ob.Rel] at hO
     obtain ⟨o1,o2,b',ms,o3,o4,o5⟩:=hO
     rw [hbl] at o3
     obtain rfl:=Option.some.inj o3
     have hkv:=toTy_rel hkey (aP hs k)
     have hyv:=toTy_rel hy (aP hs x)
     rw [<- Ej] at b1
     have hu1:(underlying t).run C.P w=.ok (.map kt et) w:=by simp [underlying,hd]
     have hu2:(underlying kt).run C.P w=.ok dk w:=by simp [underlying,uD]
     have hget:(getObj b).run C.P w=.ok (.map ms ms.size) w:=by simp [getObj,Sem.run,o4]
     have hset:∀ ms' n,(setObj b (.map ms' n)).run C.P w=.ok () (World.iR w b ms' n):=fun ms' n=>by simp [setObj,Sem.run,o4,World.iR]
     have hck:=Bu (b:=false) (n:=9999) uD b1 hkv
     have hfi:=yA b1 hkv es ms.toList 0 o5.1
     unfold zHh
     cases hq:nN kty es key with
     | none =>
      rw [hq] at hfi
      simp only at hfi
      have hE:=o5.push hkv hyv
      obtain ⟨s1,s2,s3⟩:=hs.Qw hob hbl o4 hE
      rw [Array.size_push] at s2 s3
      refine ⟨β,_,.skip,undef,?_,.inr ⟨rfl,rfl⟩,s1,s2,s3,⟨[],rfl,trivial⟩⟩
      rw [ho]
      simp only [e2,Instr.mapUpdate,Sem.run_bind,hu1,Result.andThen_ok,hget,hck,Instr.findKey,hu2,hfi,Sem.run_pure,hset]
     | some y0 =>
      rw [hq] at hfi
      obtain ⟨mm,ee,f1,f2,f3,f4,f5,f6,f7⟩:=hfi
      rw [Nat.zero_add] at f1
      rw [Array.getElem?_toList] at f2
      have hsb:=Mt b1 hkv f6 f7
      have hE:=iL.put (i:=mIdx kty es key) (x:=key) (y:=y) (m:=mm) (f:=fun e=>{ e with key:=a.eval k,val:=a.eval x }) o5 f2 rfl hkv hyv
      obtain ⟨s1,s2,s3⟩:=hs.Qw hob hbl o4 hE
      rw [Array.size_modify] at s2 s3
      refine ⟨β,_,.skip,undef,?_,.inr ⟨rfl,rfl⟩,s1,s2,s3,⟨[],rfl,trivial⟩⟩
      rw [ho]
      simp only [e2,Instr.mapUpdate,Sem.run_bind,hu1,Result.andThen_ok,hget,hck,Instr.findKey,hu2,f1,Sem.run_pure,Instr.keyThatStays,f2,Option.map_some,Option.getD_some,hsb,if_true,hset]
    ·cases h
   ·cases h
  ·cases h
 ·cases h
theorem zAg {N:Nat->Nat->Prop} {kt vt:Ty} {z:vt.den} {u zu:Value} {es:List (kt.den × vt.den)} {key:kt.den} (hz:vt.bK w N z zu) (h:match nN kt es key with | some y=>vt.bK w N y u | none=>u=zu) :
  vt.bK w N (tZ kt z es key) u:=by
 unfold tZ
 cases hq:nN kt es key with
 | none=>rw [hq] at h; simp only at h ⊢; rw [h]; exact hz
 | some y=>rw [hq] at h; exact h
theorem zLm {σ:St} {a:Act} {o:Oper} {v:V} {h':List Ob} (hT:aU C.P T) (hs:Sim C β σ a w) (h:stepM T σ o=some (true,v,h')):After C β σ a w o v h':=by
 unfold stepM at h
 split at h
 ·rename_i t ho
  have mk:∀ (ob:Ob),ob.jS=false->(∀ (p:Pl) (β':Nat->Pl) (N:Nat->Nat->Prop),p=⟨true,true,0,some w.heap.size,0,0,0,[]⟩->ob.Rel β' (w.alloc (.map #[] 0)) N p)->v=.one (.mp σ.h.length)->h'=σ.h++[ob]->After C β σ a w o v h':=by
   rintro ob htip hrel rfl rfl
   let p:Pl:=⟨true,true,0,some w.heap.size,0,0,0,[]⟩
   refine ⟨upd β σ.h.length p,w.alloc (.map #[] 0),.value (.map (some w.heap.size)),.map (some w.heap.size),?_,.inl rfl,kE hs.heap p,(bR w _).weaken fun _ _ h=>h.elim,hs.push (p:=p) (.inr ⟨rfl,by simp⟩) (bR w _) (xZ _ _) ?_ (by simp [Ob.plain,htip]),?_⟩
   ·simp only [execOp,ho,Instr.makeMap,Option.map_none,Sem.run_bind,run_newObj,Result.andThen_ok,Sem.run_pure]
    rfl
   ·exact hrel p _ _ rfl
   ·simp only [V.Rel,L.Rel,upd_same]
    exact ⟨rfl,rfl,w.heap.size,rfl,rfl⟩
  split at h
  ·split at h
   ·split at h
    ·split at h
     ·simp only [aA,aB,true_and] at h
      obtain ⟨rfl,rfl⟩:=h
      refine mk (.fm []) rfl (fun p β' N hp=>?_) rfl rfl
      subst hp
      simp only [Ob.Rel]
      exact ⟨trivial,trivial,w.heap.size,#[],0,rfl,by rw [heap_alloc_new],(show Qn [] [] from ⟨by simp,by simp⟩)⟩
     ·split at h
      ·rename_i kty vty _ _
       simp only [aA,aB,true_and] at h
       obtain ⟨rfl,rfl⟩:=h
       refine mk (.dm kty vty []) rfl (fun p β' N hp=>?_) rfl rfl
       subst hp
       simp only [Ob.Rel]
       exact ⟨trivial,trivial,w.heap.size,#[],rfl,by rw [heap_alloc_new]; rfl,trivial,fun i m hm=>by simp at hm⟩
      ·cases h
    ·cases h
   ·cases h
  ·cases h
 ·rename_i t m k x ho
  exact zAf hT hs (by simp only [execOp,ho]) h
 ·rename_i t m k x ho
  exact zAf hT hs (by simp only [execOp,ho]) h
 ·rename_i t m k ok ho
  split at h
  ·rename_i ti id hti hm
   obtain ⟨b,hbl,e2⟩:=Qx hs hm
   split at h
   ·rename_i kt et tab hk hob
    split at h
    ·rename_i key tk te hkey htk hte
     split at h
     ·rename_i hb hz
      simp only [aF,Bool.not_eq_true'] at hb
      obtain ⟨b1,b2,b3⟩:=hb
      simp only [aA,aB,true_and] at h
      obtain ⟨rfl,rfl⟩:=h
      have hd:=Cz (hT _ _ hti) hk
      obtain ⟨dk,uD,Ej⟩:=(hT _ _ htk).und
      have hO:=hs.heap.obj id _ hob
      simp only [Ob.Rel] at hO
      obtain ⟨o1,o2,b',es,n,o3,o4,o5⟩:=hO
      rw [hbl] at o3
      obtain rfl:=Option.some.inj o3
      have hkv:=Wx hkey (aP hs k)
      rw [<- Ej] at b1 b2
      obtain ⟨r,hr,hr2⟩:=Ms b1 b2 o5
      obtain ⟨i0,z,hi0,his,hib,hz0,kP,hzs,zHi⟩:=(hT _ _ hte).i
      rw [b3] at zHi
      have hzr:=kP β w (C.N β σ.h)
      rw [hz] at hzr
      have hzn:z=.nilFunc:=by
       obtain ⟨c1,c2,e,r1,r2⟩:=hzr
       simp only [aL] at r2
       subst r2
       simp only [L.Rel,Ty.Rel] at r1
       rw [r1.1,List.append_nil] at e
       cases z <;> simp [Value.cells,lJ] at e zHi ⊢
      have hu1:(underlying t).run C.P w=.ok (.map kt et) w:=by simp [underlying,hd]
      have hu2:(underlying kt).run C.P w=.ok dk w:=by simp [underlying,uD]
      have hget:(getObj b).run C.P w=.ok (.map es n) w:=by simp [getObj,Sem.run,o4]
      have hck:=kQ (w:=w) (b:=es.isEmpty) (n:=9999) uD b1
      have hzv:(zeroValue et).run C.P w=.ok .nilFunc w:=by simp [zeroValue,typeInfo,hi0,hz0,hzn]
      refine After.read hs ⟨.tuple #[Ql key tab,.bool (memT tab key)],?_,[_,_],rfl,?_⟩
      ·rw [Iw]
       unfold Ql
       cases hq:fG tab key with
       | none =>
        rw [hq] at hr2
        subst hr2
        simp only [execOp,ho,e2,hkv,Instr.lookup,Sem.run_bind,hu1,Result.andThen_ok,hget,hck,Instr.findKey,hu2,hr,Sem.run_pure,hzv]
        rfl
       | some f =>
        rw [hq] at hr2
        obtain ⟨j,rfl⟩:=hr2
        simp only [execOp,ho,e2,hkv,Instr.lookup,Sem.run_bind,hu1,Result.andThen_ok,hget,hck,Instr.findKey,hu2,hr,Sem.run_pure]
        rfl
      ·exact ⟨by simp only [dP,L.Rel],by simp only [dP,L.Rel,Ty.Rel],trivial⟩
     ·cases h
    ·cases h
   ·rename_i kt et kty vty es hk hob
    split at h
    ·rename_i key tk te hkey htk hte
     split at h
     ·rename_i z b1 hz
      have hd:=Cz (hT _ _ hti) hk
      obtain ⟨dk,uD,Ej⟩:=(hT _ _ htk).und
      have hO:=hs.heap.obj id _ hob
      simp only [Ob.Rel] at hO
      obtain ⟨o1,o2,b',ms,o3,o4,o5⟩:=hO
      rw [hbl] at o3
      obtain rfl:=Option.some.inj o3
      have hkv:=toTy_rel hkey (aP hs k)
      rw [<- Ej] at b1
      obtain ⟨zu,hzv,hzr⟩:=Qv (hT _ _ hte) hz w (C.N β σ.h)
      have hu1:(underlying t).run C.P w=.ok (.map kt et) w:=by simp [underlying,hd]
      have hu2:(underlying kt).run C.P w=.ok dk w:=by simp [underlying,uD]
      have hget:(getObj b).run C.P w=.ok (.map ms ms.size) w:=by simp [getObj,Sem.run,o4]
      have hck:=Bu (b:=ms.isEmpty) (n:=9999) uD b1 hkv
      have hfi:=yA b1 hkv es ms.toList 0 o5.1
      have key1:∃ u,(Instr.lookup t (.map (some b)) (a.eval k) ok).run C.P w=.ok (if ok then .tuple #[u,.bool (zAd kty es key)] else u) w∧vty.bK w (C.N β σ.h) (tZ kty z es key) u:=by
       unfold zAd
       cases hq:nN kty es key with
       | none =>
        rw [hq] at hfi
        simp only at hfi
        refine ⟨zu,?_,zAg hzr (by rw [hq])⟩
        simp only [Instr.lookup,Sem.run_bind,hu1,Result.andThen_ok,hget,hck,Instr.findKey,hu2,hfi,Sem.run_pure,hzv]
       | some y0 =>
        rw [hq] at hfi
        obtain ⟨mm,ee,f1,f2,f3,f4,f5,f6,f7⟩:=hfi
        refine ⟨mm.val,?_,zAg hzr (by rw [hq]; exact f5)⟩
        simp only [Instr.lookup,Sem.run_bind,hu1,Result.andThen_ok,hget,hck,Instr.findKey,hu2,f1,Sem.run_pure]
      obtain ⟨u,k1,k2⟩:=key1
      cases ok with
      | true =>
       simp only [aA,aB,true_and] at h
       obtain ⟨rfl,rfl⟩:=h
       refine After.read hs ⟨.tuple #[u,.bool (zAd kty es key)],?_,[_,_],rfl,Iz k2,by simp only [dP,L.Rel,Ty.Rel],trivial⟩
       simp only [execOp,ho,e2]
       rw [bT k1]; rfl
      | false =>
       simp only [aA,aB,true_and] at h
       obtain ⟨rfl,rfl⟩:=h
       refine After.read hs ⟨u,?_,zLl k2⟩
       simp only [execOp,ho,e2]
       rw [bT k1]; rfl
     ·cases h
    ·cases h
   ·cases h
  ·cases h
 ·rename_i t m k ho
  split at h
  ·rename_i ti id hti hm
   obtain ⟨b,hbl,e2⟩:=Qx hs hm
   split at h
   ·rename_i kt et kty vty es hk hob
    split at h
    ·rename_i key tk te hkey htk hte
     split at h
     ·rename_i z b1 hz
      simp only [aA,aB,true_and] at h
      obtain ⟨rfl,rfl⟩:=h
      have hd:=Cz (hT _ _ hti) hk
      obtain ⟨dk,uD,Ej⟩:=(hT _ _ htk).und
      have hO:=hs.heap.obj id _ hob
      simp only [Ob.Rel] at hO
      obtain ⟨o1,o2,b',ms,o3,o4,o5⟩:=hO
      rw [hbl] at o3
      obtain rfl:=Option.some.inj o3
      have hkv:=toTy_rel hkey (aP hs k)
      rw [<- Ej] at b1
      obtain ⟨zu,hzv,hzr⟩:=Qv (hT _ _ hte) hz w (C.N β σ.h)
      have hu1:(underlying t).run C.P w=.ok (.map kt et) w:=by simp [underlying,hd]
      have hu2:(underlying kt).run C.P w=.ok dk w:=by simp [underlying,uD]
      have hget:(getObj b).run C.P w=.ok (.map ms ms.size) w:=by simp [getObj,Sem.run,o4]
      have hset:∀ ms' n,(setObj b (.map ms' n)).run C.P w=.ok () (World.iR w b ms' n):=fun ms' n=>by simp [setObj,Sem.run,o4,World.iR]
      have hck:=Bu (b:=false) (n:=9999) uD b1 hkv
      have hfi:=yA b1 hkv es ms.toList 0 o5.1
      have hNk:∀ {u:Value} {x:vty.den} {w':World} (h2:List Ob),vty.bK w (C.N β σ.h) x u->Keep (C.N β σ.h) w w'->(∀ b j,b < w.heap.size->C.N β h2 b j->C.N β σ.h b j)->vty.bK w' (C.N β h2) x u:=fun h2 hv hk hN=>hv.mono hk hN
      have hNo:∀ es',∀ b j,b < w.heap.size->C.N β (σ.h.set id (.dm kty vty es')) b j->C.N β σ.h b j:=fun es' b j hlt hn =>
       nL (id:=id) (p:=β id) hob (at_set (fun _=>rfl) (.inl rfl) rfl) hlt (by rw [nM]; exact hn)
      unfold zHh
      cases hq:nN kty es key with
      | none =>
       rw [hq] at hfi
       simp only at hfi
       have hg:tZ kty z es key=z:=by unfold tZ; rw [hq]
       have hix:mIdx kty es key=es.length:=by
        have:∀ (l:List (kty.den × vty.den)),nN kty l key=none->mIdx kty l key=l.length:=by
         intro l
         induction l with
         | nil=>intro _; rfl
         | cons e l ih =>
          intro hl
          simp only [nN] at hl
          simp only [mIdx,List.length_cons]
          cases hb:kty.beq key e.1 with
          | true=>rw [hb] at hl; cases hl
          | false =>
           rw [hb] at hl
           simp only
           rw [ih hl]
        exact this es hq
       have hE:=o5.push hkv (show vty.bK w (C.N β σ.h) (tZ kty z es key) zu by rw [hg]; exact hzr)
       obtain ⟨s1,s2,s3⟩:=hs.Qw hob hbl o4 hE
       rw [Array.size_push] at s2 s3
       refine ⟨β,_,.value (.tuple #[zu,goInt ms.size]),.tuple #[zu,goInt ms.size],?_,.inl rfl,s1,s2,s3,?_⟩
       ·simp only [execOp,ho,e2,Instr.mapEntry,Sem.run_bind,hu1,Result.andThen_ok,hget,hck,Instr.findKey,hu2,hfi,Sem.run_pure,hset,hzv]
       ·refine ⟨[_,_],rfl,Iz (hNk _ (by rw [hg]; exact hzr) s2 (hNo _)),?_,trivial⟩
        simp only [dP,L.Rel,Ty.Rel,goInt,hix,o5.size]
      | some y0 =>
       rw [hq] at hfi
       obtain ⟨mm,ee,f1,f2,f3,f4,f5,f6,f7⟩:=hfi
       rw [Nat.zero_add] at f1
       rw [Array.getElem?_toList] at f2
       have hsb:=Mt b1 hkv f6 f7
       have hg:tZ kty z es key=y0:=by unfold tZ; rw [hq]
       have hE:=iL.put (i:=mIdx kty es key) (x:=key) (y:=tZ kty z es key) (m:=mm) (f:=fun e=>{ e with key:=a.eval k }) o5 f2 rfl hkv (by rw [hg]; exact f5)
       obtain ⟨s1,s2,s3⟩:=hs.Qw hob hbl o4 hE
       rw [Array.size_modify] at s2 s3
       refine ⟨β,_,.value (.tuple #[mm.val,goInt (mIdx kty es key)]),.tuple #[mm.val,goInt (mIdx kty es key)],?_,.inl rfl,s1,s2,s3,?_⟩
       ·simp only [execOp,ho,e2,Instr.mapEntry,Sem.run_bind,hu1,Result.andThen_ok,hget,hck,Instr.findKey,hu2,f1,Sem.run_pure,Instr.keyThatStays,f2,Option.map_some,Option.getD_some,hsb,if_true,hset,o5.2 _ _ f2]
       ·refine ⟨[_,_],rfl,Iz (hNk _ (hg ▸ f5) s2 (hNo _)),?_,trivial⟩
        simp only [dP,L.Rel,Ty.Rel,goInt]
     ·cases h
    ·cases h
   ·cases h
  ·cases h
 ·rename_i t m s x ho
  split at h
  ·rename_i id i hm hsv
   obtain ⟨b,hbl,e2⟩:=Qx hs hm
   split at h
   ·rename_i kty vty es hob
    split at h
    ·rename_i y hy
     simp only [aA,aB] at h
     obtain ⟨hin,rfl,rfl⟩:=h
     obtain ⟨g1,g2,g3⟩:=sU hin
     have hO:=hs.heap.obj id _ hob
     simp only [Ob.Rel] at hO
     obtain ⟨o1,o2,b',ms,o3,o4,o5⟩:=hO
     rw [hbl] at o3
     obtain rfl:=Option.some.inj o3
     have hyv:=toTy_rel hy (aP hs x)
     have hsr:=aP hs s
     rw [hsv] at hsr
     simp only [V.Rel,L.Rel,Ty.Rel,aK,and_true] at hsr
     have hms:i.toNat < ms.size:=by rw [<- o5.size]; exact g3
     have hmi:ms[i.toNat]?=some ms[i.toNat]:=by simp [hms]
     have hei:es[i.toNat]?=some es[i.toNat]:=by simp [g3]
     have hrel:=o5.1.get i.toNat g3 (by simpa using hms)
     simp only [Array.getElem_toList] at hrel
     have hget:(getObj b).run C.P w=.ok (.map ms ms.size) w:=by simp [getObj,Sem.run,o4]
     have hset:∀ ms' n,(setObj b (.map ms' n)).run C.P w=.ok () (World.iR w b ms' n):=fun ms' n=>by simp [setObj,Sem.run,o4,World.iR]
     have hE:=iL.put (i:=i.toNat) (x:=es[i.toNat].1) (y:=y) (m:=ms[i.toNat]) (f:=fun e=>{ e with val:=a.eval x }) o5 hmi rfl hrel.1 hyv
     obtain ⟨s1,s2,s3⟩:=hs.Qw hob hbl o4 hE
     rw [Array.size_modify] at s2 s3
     have hfx:=findIdx_born o5.2 hms
     rw [Int.toNat_of_nonneg g1] at hfx
     have hpe:zOq kty es i y=es.set i.toNat (es[i.toNat].1,y):=by unfold zOq; rw [hei]
     rw [hpe]
     refine ⟨β,_,.skip,undef,?_,.inr ⟨rfl,rfl⟩,s1,s2,s3,⟨[],rfl,trivial⟩⟩
     have hai:(asInt (.int .i64 i)).run C.P w=.ok i w:=rfl
     simp only [execOp,ho,e2,hsr,Instr.entryStore,Sem.run_bind,hget,Result.andThen_ok,hai,hfx,hset,Sem.run_pure]
    ·cases h
   ·cases h
  ·cases h
 ·cases h
end
end Go.Dec
namespace Go.Dec
open Go.Lib
def jU (σ:St) (te:Ty):List (Nat × Operand)->List te.den->Option (List te.den)
 | [],xs=>some xs
 | (i,x) :: r,xs =>
  match (ovl σ x).leaves with
  | some ls =>
   match bJ te ls with
   | some (y,[])=>match Nat.blt i xs.length with
    | true=>jU σ te r (xs.set i y)
    | false=>none
   | _=>none
  | none=>none
def isX (T:Tab) (o:Oper):Bool :=
 match o.op with
 | .unOp .xor _ _=>true
 | .build t _=>match T.get t with
  | some ti=>match ti.k with | .arr .. => true | _=>false
  | none=>false
 | .index t _ _=>match T.get t with
  | some ti=>match ti.k with | .arr .. => true | _=>false
  | none=>false
 | .convert s d _=>match T.get s,T.get d with
  | some ts,some td=>match ts.k,td.k with
   | .slice _,.str=>true
   | .str,.slice _=>true
   | _,_=>false
  | _,_=>false
 | .field .. => true
 | .makeInterface .. => match T.get o.type with
  | some tt=>match tt.k with | .iface true=>true | _=>false
  | none=>false
 | .typeAssert .. => true
 | _=>false
def isIf (t:TypeId):Value->Bool
 | .iface u _=>Nat.beq u t
 | _=>false
def zHk (t:TypeId):Value->Bool
 | .iface _ (.string _)=>true
 | .iface u _=>!Nat.beq u t
 | .nilIface=>true
 | _=>false
def Yz (t:TypeId):Value->List UInt8
 | .iface u (.string s)=>if Nat.beq u t then s.data.toList else []
 | _=>[]
def Za (k:IntKind) (t:TypeId):Value->Bool
 | .iface u (.int k' _)=>decide (k'=k) || !Nat.beq u t
 | .iface u _=>!Nat.beq u t
 | .nilIface=>true
 | _=>false
def Zb (t:TypeId):Value->Int
 | .iface u (.int _ n)=>if Nat.beq u t then n else 0
 | _=>0
def kR (ys:List Int):List UInt8:=ys.map fun n=>UInt8.ofNat n.toNat
def yB (T:Tab) (σ:St) (o:Oper):Option (Bool × V × List Ob) :=
 match o.op with
 | .unOp .xor _ x=>match ovl σ x with
  | .one (.val (.int k) n)=>some (true,.one (.val (.int k) (Ao k .xor (if k.signed then -1 else k.max) n)),σ.h)
  | _=>none
 | .build t parts=>match T.get t with
  | some ti=>match ti.k with
   | .arr n e=>match T.get e,ti.zls with
    | some te,[.val (.arr m ty) xs]=>if te.size=ty.size∧m=n then
      match jU σ ty parts.toList xs with
      | some ys=>some (true,.agg [.val (.arr m ty) ys],σ.h)
      | none=>none
     else none
    | _,_=>none
   | _=>none
  | none=>none
 | .index t x i=>match T.get t,ovl σ x,iQ (ovl σ i) with
  | some ti,.agg [.val (.arr m ty) xs],some (_,j)=>match ti.k with
   | .arr n e=>match T.get e with
    | some te=>if te.size=ty.size∧m=n∧te.k.isAgg=ty.isAgg then
      match ty.isAgg with
      | true=>some (inB j n,.agg (explode ty (dF ty.dflt xs j)),σ.h)
      | false=>some (inB j n,.one (.val ty (dF ty.dflt xs j)),σ.h)
     else none
    | none=>none
   | _=>none
  | _,_,_=>none
 | .convert s d x=>match T.get s,T.get d,ovl σ x with
  | some ts,some td,.one l=>match ts.k,td.k with
   | .slice e,.str=>match T.get e with
    | some te=>match te.k with
     | .int .u8=>match rowsOf σ.h (.int .u8) l with
      | some (c,ys)=>some (c,.one (.val .str (kR ys)),σ.h)
      | none=>none
     | _=>none
    | none=>none
   | .str,.slice e=>match T.get e,l with
    | some te,.val .str s=>match te.k with
     | .int .u8=>some (Nat.ble s.length room,.one (.val (.slice (.int .u8)) (bX s)),σ.h)
     | _=>none
    | _,_=>none
   | _,_=>none
  | _,_,_=>none
 | .field s x f=>match T.get s,ovl σ x with
  | some ti,.agg ls=>match ti.k with
   | .struct fs=>match fs[f]? with
    | some (off,ft)=>match T.get ft with
     | some tf=>match wI ls off tf.size with
      | some c=>match mkV tf.k.isAgg c with
       | some v=>some (true,v,σ.h)
       | none=>none
      | none=>none
     | none=>none
    | none=>none
   | _=>none
  | _,_=>none
 | .makeInterface t x=>match T.get t,T.get o.type,ovl σ x with
  | some ti,some tt,.one (.val .str s)=>match ti.k,tt.k with
   | .str,.iface true=>some (true,.one (.val .opq (.iface t (.string ⟨s.toArray⟩))),σ.h)
   | _,_=>none
  | some ti,some tt,.one (.val (.int k) n)=>match ti.k,tt.k with
   | .int _,.iface true=>some (true,.one (.val .opq (.iface t (.int k n))),σ.h)
   | _,_=>none
  | _,_,_=>none
 | .typeAssert x _ t true=>match T.get t,ovl σ x with
  | some ti,.one (.val .opq v)=>match ti.k,ti.zls with
   | .str,[.val .str []]=>some (zHk t v,.tup [.inl (.val .str (Yz t v)),.inl (.val .bool (isIf t v))],σ.h)
   | .int k,[.val (.int k') 0]=>if k'=k then some (Za k t v,.tup [.inl (.val (.int k) (Zb t v)),.inl (.val .bool (isIf t v))],σ.h) else none
   | _,_=>none
  | _,_=>none
 | _=>none
def kG (T:Tab) (σ:St) (o:Oper):Option (Bool × V × List Ob) :=
 match isM o with
 | true=>stepM T σ o
 | false =>
  match isX T o with
  | true=>yB T σ o
  | false=>dV T σ o
theorem Mv {α:Type} {n:Nat}:∀ (css:List (List α)) (i:Nat) (c:List α),(∀ d ∈ css,d.length=n)->c.length=n->i < css.length->(css.set i c).flatten=css.flatten.take (i * n)++c++css.flatten.drop (i * n+n)
 | [],i,c,_,_,h=>by simp at h
 | d :: css,0,c,hd,hc,_=>by
  have h1:=hd d (.head _)
  simp only [List.set_cons_zero,List.flatten_cons,Nat.zero_mul,List.take_zero,List.nil_append,Nat.zero_add]
  rw [List.drop_left' h1]
 | d :: css,i+1,c,hd,hc,h=>by
  have h1:=hd d (.head _)
  have ih:=Mv css i c (fun e he=>hd e (.tail _ he)) hc (by simpa using h)
  simp only [List.set_cons_succ,List.flatten_cons,ih]
  have e1:(i+1) * n=d.length+i * n:=by rw [h1,Nat.succ_mul]; omega
  rw [e1,List.take_length_add_append,Nat.add_assoc,List.drop_length_add_append]
  simp
section
variable {β:Nat->Pl} {w:World} {T:Tab} {C:Ctx}
theorem Hu {σ:St} {a:Act} {te:Ty} (hs:Sim C β σ a w):∀ {ps:List (Nat × Operand)} {xs ys:List te.den} {css:List (List Value)} {cs:Array Value},jU σ te ps xs=some ys ->
  aQ (fun x c=>te.Rel w (C.N β σ.h) x c) xs css->cs.toList=css.flatten ->
  ∃ (zM:List (List Value)) (cs':Array Value),Instr.fill (fun i=>some (i * te.size,te.size)) cs (ps.map fun p=>(p.1,a.eval p.2))=some cs'∧cs'.toList=zM.flatten∧aQ (fun x c=>te.Rel w (C.N β σ.h) x c) ys zM∧ys.length=xs.length
 | [],xs,ys,css,cs,h,hr,hc=>by
  simp only [jU,aA] at h
  subst h
  exact ⟨css,cs,rfl,hc,hr,rfl⟩
 | (i,x) :: ps,xs,ys,css,cs,h,hr,hc=>by
  simp only [jU] at h
  split at h
  ·rename_i ls hls
   split at h
   ·rename_i y hy
    split at h
    ·rename_i hi
     have hi:i < xs.length:=bA hi
     have hx:=iG hy (V.tX hls (aP hs x))
     have hl:=eH hr
     have hcl:css.length=xs.length:=hr.length.symm
     have hlen:(a.eval x).cells.size=te.size:=by simpa using hx.length
     have hfl:cs.size=css.length * te.size:=by
      have:cs.toList.length=css.flatten.length:=by rw [hc]
      rw [flatten_length css hl] at this
      simpa using this
     have hfit:i * te.size+te.size <= cs.size:=by
      rw [hfl,<- Nat.succ_mul]; exact Nat.mul_le_mul_right _ (by omega)
     have hset:=Mv css i (a.eval x).cells.toList hl (by simpa using hlen) (by omega)
     obtain ⟨zM,cs',h1,h2,h3,h4⟩:=Hu hs (css:=css.set i (a.eval x).cells.toList) (cs:=(cs.toList.take (i * te.size)++(a.eval x).cells.toList++cs.toList.drop (i * te.size+te.size)).toArray) h (hr.set i hx) (by rw [hset,hc])
     refine ⟨zM,cs',?_,h2,h3,by rw [h4,List.length_set]⟩
     rw [List.map_cons,Ar _ cs i (i * te.size) te.size _ _ rfl hlen hfit]
     exact h1
    ·cases h
   ·cases h
  ·cases h
theorem zEz {N:Nat->Nat->Prop}:∀ {ys:List Int} {css:List (List Value)},aQ (fun x c=>(Ty.int .u8).Rel w N x c) ys css->css.flatten=ys.map (Value.int .u8)
 | [],[],_=>rfl
 | y :: ys,c :: css,h=>by
  obtain ⟨h1,h2⟩:=h
  simp only [Ty.Rel] at h1
  subst h1
  simp [zEz h2]
 | [],_ :: _,h=>h.elim
 | _ :: _,[],h=>h.elim
theorem zOs {P:Program} {N:Nat->Nat->Prop} {t:TypeId} {ti:TI} (h:iW P t ti) {off:Nat} {c:List L} {cs:List Value} {v:V} (hl:aL β w N c ((cs.drop off).take ti.size)) (hs:off+ti.size <= cs.length) (hv:mkV ti.k.isAgg c=some v) :
  ∃ x,(part t cs.toArray off).run P w=.ok x w∧v.Rel β w N x:=by
 cases ha:ti.k.isAgg with
 | true =>
  rw [ha] at hv
  simp only [mkV,aA] at hv
  subst hv
  refine ⟨.agg (cs.toArray.extract off (off+ti.size)),?_,⟨(cs.drop off).take ti.size,?_,hl⟩⟩
  ·simp only [part,Sem.run_bind,h.isAgg,Result.andThen_ok,ha,if_true,h.sizeOf,Sem.run_pure]
  ·congr 1
   apply Array.toList_inj.1
   simp only [Array.toList_extract,List.extract_eq_take_drop]
   rw [show off+ti.size - off=ti.size by omega]
 | false =>
  rw [ha] at hv
  match c,hv with
  | [l],hv =>
   simp only [mkV,aA] at hv
   subst hv
   have hone:ti.size=1:=by
    obtain ⟨i,z,_,hsz,_,_,_,hz,hag⟩:=h.i
    rw [ha] at hag
    rw [<- hsz,<- hz]
    cases z <;> first | rfl | simp [lJ] at hag
   rw [hone] at hl hs
   obtain ⟨c1,c2,e,h1,h2⟩:=hl
   simp only [aL] at h2
   subst h2
   rw [List.append_nil] at e
   have hlt:off < cs.length:=by omega
   have e2:(cs.drop off).take 1=[cs[off]]:=by rw [List.drop_eq_getElem_cons hlt]; rfl
   rw [e2] at e
   subst e
   refine ⟨cs[off],?_,h1⟩
   simp only [part,Sem.run_bind,h.isAgg,Result.andThen_ok,ha,Bool.false_eq_true,if_false,List.getElem?_toArray,List.getElem?_eq_getElem hlt,Sem.run_pure]
theorem zLn {σ : St} {a : Act} {o : Oper} {v : V} {h' : List Ob} (hT : aU C.P T) (hs : Sim C β σ a w) (h : yB T σ o = some (true, v, h')) : After C β σ a w o v h' := by
  unfold yB at h
  split at h
  ·
    rename_i _ x ho
    have hx := aP hs x
    split at h
    · rename_i k n hov
      rw [hov] at hx
      simp only [aA, aB, true_and] at h
      obtain ⟨rfl, rfl⟩ := h
      simp only [V.Rel, L.Rel, Ty.Rel, aK, and_true] at hx
      refine After.read hs ⟨.int k (Ao k .xor (if k.signed then -1 else k.max) n), ?_, by simp only [V.Rel, L.Rel, Ty.Rel]⟩
      simp only [execOp, ho]
      refine bT ?_
      rw [hx]
      simp only [Op.unary, Op.intBits, Ao, Sem.run_pure]
    · cases h
  ·
    rename_i t parts ho
    split at h
    · rename_i ti hti
      split at h
      · rename_i n e hk
        split at h
        · rename_i tie m ty xs hte hz
          split at h
          · rename_i hc
            obtain ⟨hsz, rfl⟩ := hc
            split at h
            · rename_i ys hys
              simp only [aA, aB, true_and] at h
              obtain ⟨rfl, rfl⟩ := h
              have hok := hT _ _ hti
              have hu := hok.arr hk
              obtain ⟨_, z, hi, his, hib, hzz, kP, hzs, zHd⟩ := hok.i
              have hz0 := kP β w (C.N β σ.h)
              rw [hz] at hz0
              obtain ⟨c1, c2, ec, hr, h0⟩ := hz0
              simp only [aL] at h0
              subst h0
              rw [List.append_nil] at ec
              simp only [L.Rel, Ty.Rel] at hr
              obtain ⟨hxl, css, ec1, hall⟩ := hr
              obtain ⟨zM, cs', h1, h2, h3, h4⟩ := Hu hs (cs := z.cells) hys hall (by rw [ec, ec1])
              refine After.read hs ⟨.agg cs', ?_, ?_⟩
              · have hzv : (zeroValue t).run C.P w = .ok z w := by simp [zeroValue, typeInfo, hi, hzz]
                simp only [execOp, ho]
                refine bT ?_
                simp only [Instr.build, Sem.run_bind, hzv, Result.andThen_ok, run_underlying hu, (hT _ _ hte).sizeOf, hsz, Array.toList_map]
                rw [h1]
                rfl
              · exact ⟨cs'.toList, rfl, aL.zSv (by simp only [L.Rel, Ty.Rel]; exact ⟨by rw [h4, hxl], zM, h2, h3⟩)⟩
            · cases h
          · cases h
        · cases h
      · cases h
    · cases h
  ·
    rename_i t x i ho
    split at h
    · rename_i ti m ty xs k j hti hx hi
      split at h
      · rename_i n e hk
        split at h
        · rename_i te hte
          split at h
          · rename_i hc
            obtain ⟨hsz, rfl, hagg⟩ := hc
            have hok := hT _ _ hti
            have hu := hok.arr hk
            have hxr := aP hs x
            rw [hx] at hxr
            obtain ⟨cs, ex, c1, c2, ec, hr, h0⟩ := hxr
            simp only [aL] at h0
            subst h0
            rw [List.append_nil] at ec
            subst ec
            simp only [L.Rel, Ty.Rel] at hr
            obtain ⟨hxl, css, ec1, hall⟩ := hr
            have hl := eH hall
            have iv := dQ hi (aP hs i)
            have key : inB j m = true -> ∃ (h2 : j.toNat < xs.length) (h3 : j.toNat < css.length), ty.Rel w (C.N β σ.h) (dF ty.dflt xs j) css[j.toNat] ∧ (cs.drop (j.toNat * ty.size)).take ty.size = css[j.toNat] ∧ 0 <= j ∧ j < (m : Int) ∧ j.toNat * ty.size + ty.size <= cs.length := by
              intro hb
              obtain ⟨g0, g1, g2⟩ := sU hb
              have h2 : j.toNat < xs.length := by omega
              have h3 : j.toNat < css.length := by rw [<- hall.length]; exact h2
              refine ⟨h2, h3, ?_, ?_, g0, g1, ?_⟩
              · have := hall.get j.toNat h2 h3
                simpa [dF, List.getD_eq_getElem?_getD, h2] using this
              · rw [ec1, iF css hl, List.drop_eq_getElem_cons h3, List.flatten_cons, List.take_left' (hl _ (List.getElem_mem h3))]
              · rw [ec1, flatten_length css hl, <- Nat.succ_mul]; exact Nat.mul_le_mul_right _ (by omega)
            obtain ⟨ie, ze, hie, zZt, zZu, zZv, zZk, zZw, zZx⟩ := (hT _ _ hte).i
            have zLo : (isAgg e).run C.P w = .ok te.k.isAgg w := by
              obtain ⟨d, hd, hdk⟩ := (hT _ _ hte).und
              simp only [isAgg, Sem.run_bind, run_underlying hd, Result.andThen_ok, <- hdk]
              cases d <;> rfl
            split at h
            · rename_i hag
              simp only [aA, aB] at h
              obtain ⟨hb, rfl, rfl⟩ := h
              obtain ⟨h2, h3, hrel, hcut, g0, g1, g2⟩ := key hb
              refine After.read hs ⟨.agg (cs.toArray.extract (j.toNat * ty.size) (j.toNat * ty.size + ty.size)), ?_, ?_⟩
              · simp only [execOp, ho]
                refine bT ?_
                rw [iv, ex]
                simp only [Instr.index, asIntOf, Sem.run_bind, Sem.run_pure, Result.andThen_ok, run_underlying hu, g0, g1, and_self, if_true, (hT _ _ hte).sizeOf, part, zLo, hagg, hag, hsz]
              · refine ⟨css[j.toNat], ?_, fE hrel⟩
                congr 1
                apply Array.toList_inj.1
                simp only [Array.toList_extract, List.extract_eq_take_drop]
                rw [show j.toNat * ty.size + ty.size - j.toNat * ty.size = ty.size by omega, hcut]
            · rename_i hag
              simp only [aA, aB] at h
              obtain ⟨hb, rfl, rfl⟩ := h
              obtain ⟨h2, h3, hrel, hcut, g0, g1, g2⟩ := key hb
              have hone : ty.size = 1 := by cases ty <;> first | rfl | cases hag
              have hcl : css[j.toNat].length = 1 := by rw [hrel.length, hone]
              obtain ⟨u, hu1⟩ : ∃ u, css[j.toNat] = [u] := List.length_eq_one_iff.1 hcl
              rw [hu1, hone, Nat.mul_one] at hcut
              have hget : cs[j.toNat]? = some u := by
                have : (cs.drop j.toNat).take 1 = [u] := hcut
                have h5 : ((cs.drop j.toNat).take 1)[0]? = some u := by rw [this]; rfl
                rw [List.getElem?_take, if_pos (by omega), List.getElem?_drop] at h5
                simpa using h5
              rw [hu1] at hrel
              refine After.read hs ⟨u, ?_, by simp only [V.Rel, L.Rel]; exact hrel⟩
              simp only [execOp, ho]
              refine bT ?_
              rw [iv, ex]
              simp only [Instr.index, asIntOf, Sem.run_bind, Sem.run_pure, Result.andThen_ok, run_underlying hu, g0, g1, and_self, if_true, (hT _ _ hte).sizeOf, part, zLo, hagg, hag, hsz, hone, Nat.mul_one, Bool.false_eq_true, if_false, List.getElem?_toArray, hget]
          · cases h
        · cases h
      · cases h
    · cases h
  ·
    rename_i s d x ho
    split at h
    · rename_i ts td l hts htd hl
      have hx := aP hs x
      rw [hl] at hx
      split at h
      · rename_i e hks hkd
        split at h
        · rename_i te hte
          split at h
          · rename_i hke
            split at h
            · rename_i c ys hys
              simp only [aA, aB] at h
              obtain ⟨rfl, rfl, rfl⟩ := h
              have hy := qY hs.heap hys (show l.Rel β w (C.N β σ.h) [a.eval x] from hx)
              have hus := (hT _ _ hts).slice hks
              have hue := (hT _ _ hte).int hke
              have hud := (hT _ _ htd).str hkd
              refine After.read hs ⟨.string ⟨(kR ys).toArray⟩, ?_, by simp only [V.Rel, L.Rel, Ty.Rel]⟩
              simp only [execOp, ho]
              refine bT ?_
              have fin : ∀ b off cap, a.eval x = .slice (some ⟨b, off, none⟩) ys.length cap -> (∀ j u, (ys.map (Value.int .u8))[j]? = some u -> w.cell? ⟨b, off + j, none⟩ = some u) -> (convert s d (a.eval x)).run C.P w = .ok (.string ⟨(kR ys).toArray⟩) w := by
                intro b off cap hv hcells
                rw [hv, run_convert_bytes_arg (P := C.P) w s e hus hue b off ys.length cap ys rfl (fun i hi => hcells i _ (by simp [List.getD_eq_getElem?_getD, hi])) d hud]
                simp [strOfNums, kR]
              rcases hy with ⟨hv, rfl⟩ | ⟨b, off, cap, css, hv, _, hall, hcs⟩ | ⟨a0, cap, hv, rfl⟩
              · rw [hv, run_convert_bytes_nil (P := C.P) w s e hus hue 0 0 d hud]; rfl
              · exact fin b off cap hv (by rw [<- zEz hall]; exact hcs)
              · obtain ⟨b, off, wk⟩ := a0
                rw [hv, run_convert_bytes_string w s d e _ 0 cap hus hue hud]
                simp [Conv.bytesToString, loadCells, loadCellsFrom, kR]
                rfl
            · cases h
          · cases h
        · cases h
      · rename_i e hks hkd
        split at h
        · rename_i te s0 hte
          split at h
          · rename_i hke
            simp only [aA, aB] at h
            obtain ⟨hroom, rfl, rfl⟩ := h
            have hus := (hT _ _ hts).str hks
            have hue := (hT _ _ hte).int hke
            have hud := (hT _ _ htd).slice hkd
            simp only [V.Rel, L.Rel, Ty.Rel, aK, and_true] at hx
            have hroom := bA hroom
            unfold room at hroom
            let bs : ByteArray := ⟨s0.toArray⟩
            have hbs : bs.size = s0.length := by simp [bs, ByteArray.size]
            have hge := grownCap_ge w bs.size 0 e
            have hcm := grownCap_le_maxLen w bs.size 0 e (by simp only [maxLen]; omega)
            have hkk : Keep (fun _ _ => False) w (bytesWorld w e bs) := Keep.qU (M := fun _ => False) (by rw [bytesWorld_size]; omega) (fun b hb _ => bytesWorld_at_old w e bs b hb) (fun _ _ h => h)
            have hrun : (convert s d (a.eval x)).run C.P w = .ok (.slice (some ⟨w.heap.size, 0, none⟩) bs.size (grownCap w bs.size 0 e)) (bytesWorld w e bs) := by
              rw [hx]
              exact Go.Lib.run_convert_string_bytes w s d e bs hus hud hue
            have hN : ∀ b j, C.N β σ.h b j -> b < w.heap.size := fun b j hb => by
              rcases hb with hb | ⟨id, o, ho, _, hbk⟩
              · exact Nat.lt_of_lt_of_le (hs.heap.n0 b j hb) hs.heap.size
              · exact (hs.heap.dH id o b ho ⟨j, hbk⟩).2.1
            have hfr : ∀ (id : Nat) (o : Ob) (b : Nat), σ.h[id]? = some o -> o.blks (β id) b -> (bytesWorld w e bs).heap[b]? = w.heap[b]? := fun id o b ho hb => hkk.block b (hs.heap.dH id o b ho hb).2.1 (fun _ h => h)
            refine ⟨β, bytesWorld w e bs, _, .slice (some ⟨w.heap.size, 0, none⟩) bs.size (grownCap w bs.size 0 e), ?_, .inl rfl, Moves.refl β, hkk.weaken fun _ _ h => h.elim, ?_, ?_⟩
            · simp only [execOp, ho, Sem.run_bind, hrun, Result.andThen_ok, Sem.run_pure]
            · refine ⟨⟨fun id o ho => (hs.heap.obj id o ho).mono (Moves.refl β) (hkk.weaken fun _ _ h => h.elim) (fun _ _ _ h => h) fun b hb => hfr id o b ho hb, hs.heap.dead, hs.heap.jT, fun id o b ho hb => ?_, hs.heap.n0, hs.heap.frame.mQ hkk fun _ _ _ h => h.elim, Nat.le_trans hs.heap.size hkk.size, ?_, ?_, ?_, hs.heap.fixed⟩, hs.defers, hs.size, fun i u hu => (hs.reg i u hu).mono (Moves.refl β) (hkk.weaken fun _ _ h => h.elim) fun _ _ _ h => h⟩
              · obtain ⟨k1, k2, k3⟩ := hs.heap.dH id o b ho hb
                exact ⟨k1, Nat.lt_of_lt_of_le k2 hkk.size, k3⟩
              · exact (show (bytesWorld w e bs).os = w.os from rfl).trans hs.heap.os
              · exact (show (bytesWorld w e bs).tape = w.tape from rfl).trans hs.heap.tape
              · exact (show (bytesWorld w e bs).output = w.output from rfl).trans hs.heap.output
            · simp only [V.Rel, L.Rel, Ty.Rel]
              have hsl : (bX s0).length = bs.size := by simp [bX, hbs]
              refine ⟨_, rfl, .inr (.inl ⟨w.heap.size, 0, grownCap w bs.size 0 e, (bX s0).map fun n => [Value.int .u8 n], by rw [hsl], by rw [bytesWorld_size]; omega, fun j _ _ hn => ?_, by rw [hsl]; exact hge, hcm, ?_, ?_, ?_⟩)⟩
              · have := hN _ _ hn; omega
              · exact zAh (fun n => by simp only) _
              · intro c hc
                obtain ⟨n, _, rfl⟩ := List.mem_map.1 hc
                rfl
              · intro j u hj
                rw [Nat.zero_add]
                have hj2 : j < s0.length := by
                  have : ((bX s0).map fun n => [Value.int .u8 n]).flatten.length = s0.length := by rw [flatten_length (n := 1) _ (fun c hc => by obtain ⟨n, _, rfl⟩ := List.mem_map.1 hc; rfl)]; simp [bX]
                  rw [<- this]
                  exact (aS.1 hj).1
                have e1 : ((bX s0).map fun n => [Value.int .u8 n]).flatten = (bX s0).map (Value.int .u8) := by
                  generalize bX s0 = l
                  induction l with
                  | nil => rfl
                  | cons a l ih => simp [ih]
                rw [e1] at hj
                rw [bytesWorld_cell w e bs j (by rw [hbs]; exact hj2)]
                simp only [bX, List.map_map, List.getElem?_map, List.getElem?_eq_getElem hj2, Option.map_some, aA, Function.comp] at hj
                simp [bs, List.getD_eq_getElem?_getD, hj2, <- hj]
          · cases h
        · cases h
      · cases h
    · cases h
  ·
    rename_i s x f ho
    have hx := aP hs x
    split at h
    · rename_i ti ls hti hl
      rw [hl] at hx
      split at h
      · rename_i fs hk
        split at h
        · rename_i off ft hf
          split at h
          · rename_i tf htf
            split at h
            · rename_i c hc
              split at h
              · rename_i v0 hv
                simp only [aA, aB, true_and] at h
                obtain ⟨rfl, rfl⟩ := h
                obtain ⟨cs, ex, hls⟩ := hx
                obtain ⟨hr, hle⟩ := qX hc hls
                have hok := hT _ _ hti
                have hok2 := hT _ _ htf
                obtain ⟨ff, hu, hfs⟩ := hok.struct hk
                subst hfs
                rw [List.getElem?_map] at hf
                cases hfe : ff.toList[f]? with
                | none => rw [hfe] at hf; cases hf
                | some fe =>
                  rw [hfe] at hf
                  simp only [Option.map_some, aA, aB] at hf
                  obtain ⟨rfl, rfl⟩ := hf
                  have zYf : ff[f]? = some fe := by rw [<- Array.getElem?_toList]; exact hfe
                  obtain ⟨u, h1, h2⟩ := zOs (P := C.P) hok2 (off := fe.offset) hr hle hv
                  refine After.read hs ⟨u, ?_, h2⟩
                  simp only [execOp, ho]
                  refine bT ?_
                  rw [ex]
                  simp only [Instr.field, Sem.run_bind, run_underlying hu, Result.andThen_ok, zYf, asAgg, Sem.run_pure]
                  exact h1
              · cases h
            · cases h
          · cases h
        · cases h
      · cases h
    · cases h
  ·
    rename_i t x ho
    have hx := aP hs x
    split at h
    · rename_i ti tt s hti htt hl
      rw [hl] at hx
      split at h
      · rename_i hk hk2
        simp only [aA, aB, true_and] at h
        obtain ⟨rfl, rfl⟩ := h
        have hu := (hT _ _ hti).str hk
        simp only [V.Rel, L.Rel, Ty.Rel, aK, and_true] at hx
        refine After.read hs ⟨.iface t (.string ⟨s.toArray⟩), ?_, by simp [V.Rel, L.Rel, Ty.Rel, Value.oneCell']⟩
        simp only [execOp, ho]
        refine bT ?_
        rw [hx]
        simp only [Instr.makeInterface, Sem.run_bind, run_underlying hu, Result.andThen_ok, Sem.run_pure]
      · cases h
    · rename_i ti tt k n hti htt hl
      rw [hl] at hx
      split at h
      · rename_i k2 hk hk2
        simp only [aA, aB, true_and] at h
        obtain ⟨rfl, rfl⟩ := h
        have hu := (hT _ _ hti).int hk
        simp only [V.Rel, L.Rel, Ty.Rel, aK, and_true] at hx
        refine After.read hs ⟨.iface t (.int k n), ?_, by simp [V.Rel, L.Rel, Ty.Rel, Value.oneCell']⟩
        simp only [execOp, ho]
        refine bT ?_
        rw [hx]
        simp only [Instr.makeInterface, Sem.run_bind, run_underlying hu, Result.andThen_ok, Sem.run_pure]
      · cases h
    · cases h
  ·
    rename_i x xt t ho
    have hx := aP hs x
    split at h
    · rename_i ti v0 hti hl
      rw [hl] at hx
      simp only [V.Rel, L.Rel, Ty.Rel, aK, and_true] at hx
      obtain ⟨_, z, hi, his, hib, hzz, kP, hzs, zHd⟩ := (hT _ _ hti).i
      have hzv : (zeroValue t).run C.P w = .ok z w := by simp [zeroValue, typeInfo, hi, hzz]
      have hz0 := kP β w (C.N β σ.h)
      have hzc : lJ z = false -> ∀ c, z.cells.toList = [c] -> z = c := fun hz c hc => by
        cases z <;> simp_all [lJ, Value.cells]
      split at h
      · rename_i hk hz
        simp only [aA, aB] at h
        obtain ⟨hok, rfl, rfl⟩ := h
        have hu := (hT _ _ hti).str hk
        rw [hz] at hz0
        obtain ⟨c1, c2, ec, hr, h0⟩ := hz0
        simp only [aL] at h0
        subst h0
        simp only [L.Rel, Ty.Rel] at hr
        subst hr
        obtain rfl := hzc (by rw [<- zHd, hk]; rfl) _ (by simpa using ec)
        refine After.read hs ⟨.tuple #[.string ⟨(Yz t v0).toArray⟩, .bool (isIf t v0)], ?_, ⟨[_, _], rfl, by simp only [dP, L.Rel, Ty.Rel], by simp only [dP, L.Rel, Ty.Rel], trivial⟩⟩
        simp only [execOp, ho]
        refine bT ?_
        rw [hx.1]
        simp only [Instr.typeAssert, Sem.run_bind, run_underlying hu, Result.andThen_ok]
        cases v0 with
        | nilIface => simp only [if_true, Sem.run_bind, hzv, Result.andThen_ok, Sem.run_pure]; try rfl
        | iface u p =>
          simp only
          by_cases hut : u = t
          · subst hut
            rw [if_pos rfl]
            cases p <;> first | (simp [zHk] at hok; done) | skip
            simp only [if_true, Sem.run_pure, Yz, isIf, Nat.beq_refl]
            try rfl
          · rw [if_neg hut]
            have hb : Nat.beq u t = false := by
              cases h : Nat.beq u t with
              | false => rfl
              | true => exact absurd (aG h) hut
            simp only [if_true, Sem.run_bind, hzv, Result.andThen_ok, Sem.run_pure, isIf, hb]
            cases p <;> simp [Yz, hb]
        | _ => simp [zHk] at hok
      · rename_i k k' hk hz
        split at h
        · rename_i hkk
          subst hkk
          simp only [aA, aB] at h
          obtain ⟨hok, rfl, rfl⟩ := h
          have hu := (hT _ _ hti).int hk
          rw [hz] at hz0
          obtain ⟨c1, c2, ec, hr, h0⟩ := hz0
          simp only [aL] at h0
          subst h0
          simp only [L.Rel, Ty.Rel] at hr
          subst hr
          obtain rfl := hzc (by rw [<- zHd, hk]; rfl) _ (by simpa using ec)
          refine After.read hs ⟨.tuple #[.int k' (Zb t v0), .bool (isIf t v0)], ?_, ⟨[_, _], rfl, by simp only [dP, L.Rel, Ty.Rel], by simp only [dP, L.Rel, Ty.Rel], trivial⟩⟩
          simp only [execOp, ho]
          refine bT ?_
          rw [hx.1]
          simp only [Instr.typeAssert, Sem.run_bind, run_underlying hu, Result.andThen_ok]
          cases v0 with
          | nilIface => simp only [if_true, Sem.run_bind, hzv, Result.andThen_ok, Sem.run_pure]; try rfl
          | iface u p =>
            simp only
            by_cases hut : u = t
            · subst hut
              rw [if_pos rfl]
              cases p <;> first | (simp [Za] at hok; done) | skip
              simp [Za] at hok
              subst hok
              simp only [if_true, Sem.run_pure, Zb, isIf, Nat.beq_refl]
            · rw [if_neg hut]
              have hb : Nat.beq u t = false := by
                cases h : Nat.beq u t with
                | false => rfl
                | true => exact absurd (aG h) hut
              simp only [if_true, Sem.run_bind, hzv, Result.andThen_ok, Sem.run_pure, isIf, hb]
              cases p <;> simp [Zb, hb]
          | _ => simp [Za] at hok
        · cases h
      · cases h
    · cases h
  · cases h
where
 aL.zSv {l:L} {cs:List Value} {N:Nat->Nat->Prop} (h:l.Rel β w N cs):aL β w N [l] cs:=⟨cs,[],by simp,h,rfl⟩
 zAh {γ δ:Type} {R:γ->δ->Prop} {f:γ->δ} (h:∀ x,R x (f x)):∀ l:List γ,aQ R l (l.map f)
  | []=>trivial
  | a :: l=>⟨h a,zAh h l⟩
theorem zLp {σ:St} {a:Act} {o:Oper} {v:V} {h':List Ob} (hT:aU C.P T) (hs:Sim C β σ a w) (h:kG T σ o=some (true,v,h')):After C β σ a w o v h':=by
 unfold kG at h
 split at h
 ·exact zLm hT hs h
 ·split at h
  ·exact zLn hT hs h
  ·exact zHf hT hs h
end
end Go.Dec
