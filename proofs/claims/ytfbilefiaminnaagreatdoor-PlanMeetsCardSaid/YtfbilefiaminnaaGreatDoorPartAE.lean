/- Part of a proof over this seat: a library of my own, and what it says of this seat. No statement is proved here. -/
import Derived.Test.YtfbilefiaminnaaGreatDoorPartAD
namespace Go.Dec
def isM(o:Oper):Bool:=match o.op with
 |.makeMap .. => true
 |.insert .. => true
 |.mapUpdate .. => true
 |.lookup .. => true
 |.mapEntry .. => true
 |.entryStore .. => true
 |_=>false
def keyOf:V->Option MK | .one (.val (.int k) n)=>some (.i k n) | .one (.val .str s)=>some (.s s) | _=>none
def yPt:V->Option Nat | .one (.clo f [])=>some f | _=>none
def memT:List (MK×Nat)->MK->Bool | [],_=>false | (a,_) :: r,x=>MK.beq x a||memT r x
def Ir(tk:TK)(x:MK):Bool:=match tk,x with
 |.int k,.i k' _=>decide (k=k')
 |.str,.s _=>true
 |_,_=>false
def tO (tk:TK):List (MK×Nat)->Bool | []=>true | (a,_) :: r=>Ir tk a&&tO tk r
def zDe(tk:TK)(kt:Ty):Bool:=match tk,kt with
 |.int k,.int k'=>decide (k=k')
 |.str,.str=>true
 |_,_=>false
def gH(kt:Ty){α:Type}:List (kt.den × α)->kt.den->Option α
 |[],_=>none
 |e::r,k=>match kt.beq k e.1 with
  |true=>some e.2
  |false=>gH kt r k
def mIdx(kt:Ty){α:Type}:List (kt.den × α)->kt.den->Nat
 |[],_=>0
 |e::r,k=>match kt.beq k e.1 with
  |true=>0
  |false=>mIdx kt r k+1
def jK(kt:Ty){α:Type}(d:α)(es:List (kt.den × α))(k:kt.den):α:=match gH kt es k with
 |some v=>v
 |none=>d
def zSl(kt:Ty){α:Type}(es:List (kt.den × α))(k:kt.den):Bool:=match gH kt es k with
 |some _=>true
 |none=>false
def wK(kt:Ty){α:Type}(es:List (kt.den × α))(k:kt.den)(v:α):List (kt.den × α):=match gH kt es k with
 |some _=>es.set (mIdx kt es k) (k,v)
 |none=>es++[(k,v)]
def yPu(kt:Ty){α:Type}(es:List (kt.den × α))(i:Int)(v:α):List (kt.den × α):=match es[i.toNat]? with
 |some e=>es.set i.toNat (e.1,v)
 |none=>es
def toTy(t:Ty)(v:V):Option t.den :=
 match t.isAgg,v with
 |true,.agg ls=>match dS t ls with
  |some (x,[])=>some x
  |_=>none
 |false,.one l=>l.asT t
 |_,_=>none
def zXv(t:Ty)(x:t.den):Sum L (List L):=
 match t.isAgg with
 |true=>.inr (explode t x)
 |false=>.inl (.val t x)
def valTy(t:Ty)(x:t.den):V :=
 match t.isAgg with
 |true=>.agg (explode t x)
 |false=>.one (.val t x)
def zOy(ti:TI)(t:Ty):Option t.den :=
 match ti.k.isAgg==t.isAgg,dS t ti.zls with
 |true,some (x,[])=>some x
 |_,_=>none
def zSm(T:Tab)(σ:St)(t:TypeId)(m k x:Operand):Option (Bool × V × List Ob):=
 match T.get t,ovl σ m with
 |some ti,.one (.mp id)=>match ti.k,σ.h[id]? with
  |.map kt _,some (.fm tab)=>match T.get kt,keyOf (ovl σ k),yPt (ovl σ x)with
   |some tk,some key,some f=>match Ir tk.k key&&(tO tk.k tab&&!memT tab key)with
    |true=>some (true,.tup [],σ.h.set id (.fm (tab++[(key,f)])))
    |false=>none
   |_,_,_=>none
  |.map kt _,some (.dm kty vty es)=>match T.get kt,toTy kty (ovl σ k),toTy vty (ovl σ x)with
   |some tk,some key,some v=>match zDe tk.k kty with
    |true=>some (true,.tup [],σ.h.set id (.dm kty vty (wK kty es key v)))
    |false=>none
   |_,_,_=>none
  |_,_=>none
 |_,_=>none
def stepM(T:Tab)(σ:St)(o:Oper):Option (Bool × V × List Ob):=
 match o.op with
 |.makeMap t none=>match T.get t with
  |some ti=>match ti.k with
   |.map kt et=>match T.get kt,T.get et with
    |some tk,some te=>match te.k with
     |.func=>some (true,.one (.mp σ.h.length),σ.h++[.fm []])
     |_=>match tk.ty,te.ty with
      |some kty,some vty=>some (true,.one (.mp σ.h.length),σ.h++[.dm kty vty []])
      |_,_=>none
    |_,_=>none
   |_=>none
  |none=>none
 |.insert t m k x=>zSm T σ t m k x
 |.mapUpdate t m k x=>zSm T σ t m k x
 |.lookup t m k ok=>match T.get t,ovl σ m with
  |some ti,.one (.mp id)=>match ti.k,σ.h[id]? with
   |.map kt et,some (.fm tab)=>match ok,keyOf (ovl σ k),T.get kt,T.get et with
    |true,some key,some tk,some te=>match Ir tk.k key&&(tO tk.k tab&&!te.k.isAgg),te.zls with
     |true,[.val .opq .nilFunc]=>some (true,.tup [.inl (.Rz key tab),.inl (.val .bool (memT tab key))],σ.h)
     |_,_=>none
    |_,_,_,_=>none
   |.map kt et,some (.dm kty vty es)=>match toTy kty (ovl σ k),T.get kt,T.get et with
    |some key,some tk,some te=>match zDe tk.k kty,zOy te vty with
     |true,some z=>match ok with
      |true=>some (true,.tup [zXv vty (jK kty z es key),.inl (.val .bool (zSl kty es key))],σ.h)
      |false=>some (true,valTy vty (jK kty z es key),σ.h)
     |_,_=>none
    |_,_,_=>none
   |_,_=>none
  |_,_=>none
 |.mapEntry t m k=>match T.get t,ovl σ m with
  |some ti,.one (.mp id)=>match ti.k,σ.h[id]? with
   |.map kt et,some (.dm kty vty es)=>match toTy kty (ovl σ k),T.get kt,T.get et with
    |some key,some tk,some te=>match zDe tk.k kty,zOy te vty with
     |true,some z=>some (true,.tup [zXv vty (jK kty z es key),.inl (.val (.int .i64) (mIdx kty es key:Nat))],σ.h.set id (.dm kty vty (wK kty es key (jK kty z es key))))
     |_,_=>none
    |_,_,_=>none
   |_,_=>none
  |_,_=>none
 |.entryStore _ m s x=>match ovl σ m,ovl σ s with
  |.one (.mp id),.one (.val (.int .i64) i)=>match σ.h[id]? with
   |some (.dm kty vty es)=>match toTy vty (ovl σ x)with
    |some v=>some (inB i es.length,.tup [],σ.h.set id (.dm kty vty (yPu kty es i v)))
    |none=>none
   |_=>none
  |_,_=>none
 |_=>none
section
variable {β:Nat->Pl}
variable {w:World}
variable {T:Tab}
variable {C:Ctx}
theorem bytes_beq(b c:List UInt8):((⟨b.toArray⟩:ByteArray)==⟨c.toArray⟩)=(b==c):=by
 show(b.toArray==c.toArray)=_;rw[Bool.eq_iff_iff];simp
theorem zZf{d:TypeDesc}{x a:MK}(hx:Ir (TK.of d) x=true)(ha:Ir (TK.of d) a=true):Instr.sameNow d x.v a.v=some (MK.beq x a):=by
 cases d<;>simp only[TK.of,Ir]at hx ha<;>try (cases x<;>simp at hx)
 ·cases a<;>simp at ha
  subst hx ha;simp[Instr.sameNow,MK.v,MK.beq]
 ·cases a<;>simp at ha
  simp only[Instr.sameNow,MK.v,MK.beq,bytes_beq]
theorem Yr:∀ (tab:List (MK × Nat)) (x:MK),memT tab x=(kP tab x).isSome
 |[],_=>rfl
 |(a,f)::r,x=>by
  simp only[memT,kP];cases h:MK.beq x a
  ·simp[Yr r x]
  ·simp
theorem MK.beq_iff{x a:MK}:MK.beq x a=true<->x=a:=by
 cases x<;>cases a<;>simp[MK.beq]
theorem Yt:∀ {tab:List (MK × Nat)}{x:MK}{f:Nat},kP tab x=some f->(x,f)∈tab
 |[],x,f,h=>by simp[kP]at h
 |(a,g)::r,x,f,h=>by
  simp only[kP]at h;split at h
  ·rename_i hb;simp only[aA]at h;rw[MK.beq_iff.1 hb,h];exact List.mem_cons_self ..
  ·exact List.mem_cons_of_mem _ (Yt h)
theorem zUm{tab:List (MK × Nat)}{x y:MK}{f g:Nat}(h:kP tab x=some f):kP (tab++[(y,g)]) x=some f:=by
 induction tab with
 |nil=>simp[kP]at h
 |cons q r ih =>
  obtain⟨a,k⟩:=q;simp only[List.cons_append,kP]at *;split
  ·rename_i hb;rw[if_pos hb]at h;exact h
  ·rename_i hb;rw[if_neg hb]at h;exact ih h
theorem zUn{tab:List (MK × Nat)}{x:MK}{f:Nat}(h:kP tab x=none):kP (tab++[(x,f)]) x=some f:=by
 induction tab with
 |nil=>simp[kP,MK.beq_iff.2 rfl]
 |cons q r ih =>
  obtain⟨a,k⟩:=q;simp only[List.cons_append,kP]at *;split
  ·rename_i hb;rw[if_pos hb]at h;cases h
  ·rename_i hb;rw[if_neg hb]at h;exact ih h
theorem zDf{tk:TK}:∀ {tab:List (MK × Nat)},tO tk tab=true<->∀ q∈tab,Ir tk q.1=true
 |[]=>by simp[tO]
 |(a,f)::r=>by simp[tO,zDf (tab:=r)]
theorem MK.xBu{x y:MK}(h:x.v=y.v):x=y:=by
 cases x<;>cases y<;>simp[MK.v]at h
 ·obtain⟨rfl,rfl⟩:=h;rfl
 ·exact congrArg MK.s h
theorem zOz{d:TypeDesc}{x:MK}(hx:Ir (TK.of d) x=true){tab:List (MK × Nat)}(hk:tO (TK.of d) tab=true):∀ (es:List MapEntry) (i:Nat),(∀ e∈es,∃ x f,e.key=x.v/\e.val=.func (.func f) #[] #[]/\kP tab x=some f) ->
 (∃ j f,Instr.findNow d x.v es i=some (some (j,.func (.func f) #[] #[]))/\kP tab x=some f)\/(Instr.findNow d x.v es i=some none/\∀ e∈es,e.key≠x.v)
 |[],i,_=>.inr ⟨rfl,λe he=>by cases he⟩
 |e::es,i,h=>by
  obtain⟨a,f,h1,h2,h3⟩:=h e (List.mem_cons_self ..);have ha:=zDf.1 hk _ (Yt h3);simp only[Instr.findNow,h1,zZf hx ha];cases hb:MK.beq x a
  ·simp only[Bool.false_eq_true,if_false];rcases zOz hx hk es (i+1) (λe he=>h e (List.mem_cons_of_mem _ he))with h4|⟨h4,h5⟩
   ·exact .inl h4
   ·refine .inr ⟨h4,λe' he'=>?_⟩;rcases List.mem_cons.1 he' with rfl|he'
    ·rw[h1];intro hc;rw[MK.beq_iff.2 (MK.xBu hc).symm]at hb;cases hb
    ·exact h5 e' he'
  ·obtain rfl:=MK.beq_iff.1 hb;exact .inl ⟨i,f,by simp only[h2,if_true],h3⟩
theorem Zp{d:TypeDesc}{x:MK}(hx:Ir (TK.of d) x=true){tab:List (MK × Nat)}(hk:tO (TK.of d) tab=true){es:List MapEntry}(hF:Cv tab es):∃ r,Instr.findNow d x.v es 0=some r/\(match kP tab x with|some f=>∃ j,r=some (j,.func (.func f) #[] #[])|none=>r=none):=by
 rcases zOz hx hk es 0 hF.1 with ⟨j,f,h1,h2⟩|⟨h1,h2⟩
 ·exact⟨_,h1,by rw[h2];exact⟨j,rfl⟩⟩
 ·refine⟨none,h1,?_⟩;cases hf:kP tab x with
  |none=>rfl
  |some f =>
   obtain⟨e,he,hk⟩:=hF.2 _ (Yt hf);exact absurd hk (h2 e he)
theorem Vp{P:Program}{t:TypeId}{d:TypeDesc}{x:MK}{b:Bool}{n:Nat}(hu:P.underlying t=some d)(hx:Ir (TK.of d) x=true):(Instr.checkKey b (n+1) t x.v).run P w=.ok () w:=by
 have hr:(underlying t).run P w=.ok d w:=by simp[underlying,hu]
 simp only[Instr.checkKey,Sem.run_bind,hr,Result.andThen_ok];cases d<;>simp only[TK.of,Ir]at hx<;>try (cases x<;>simp at hx)
 all_goals simp[MK.v]
theorem zUo{v:V}{key:MK}{x:Value}{N:Nat->Nat->Prop}(h:keyOf v=some key)(hr:v.Rel β w N x):x=key.v:=by
 unfold keyOf at h;split at h
 ·simp only[aA]at h;subst h;simp only[V.Rel,L.Rel,Ty.Rel,aJ,and_true]at hr;exact hr
 ·simp only[aA]at h;subst h;simp only[V.Rel,L.Rel,Ty.Rel,aJ,and_true]at hr;exact hr
 ·cases h
theorem yPv{v:V}{f:Nat}{x:Value}{N:Nat->Nat->Prop}(h:yPt v=some f)(hr:v.Rel β w N x):x=.func (.func f) #[] #[]:=by
 unfold yPt at h;split at h
 ·simp only[aA]at h;subst h;simp only[V.Rel,L.Rel,L.eD]at hr;obtain⟨us,hx,rfl⟩:=hr;simpa [zSf]using hx
 ·cases h
theorem toTy_rel{t:Ty}{v:V}{x:t.den}{u:Value}{N:Nat->Nat->Prop}(h:toTy t v=some x)(hr:v.Rel β w N u):t.bP w N x u:=by
 unfold toTy at h;unfold Ty.bP;cases ha:t.isAgg with
 |true =>
  rw[ha]at h;cases v with
  |agg ls =>
   simp only at h;split at h
   ·rename_i y hy;simp only[aA]at h;subst h;obtain⟨cs,rfl,hr⟩:=hr;obtain⟨c1,c2,e,h1,h2⟩:=uS hy hr;simp only[aG]at h2;subst h2;rw[List.append_nil]at e;rw[if_pos rfl];exact⟨cs,rfl,by rw[e];exact h1⟩
   ·cases h
  |_=>simp at h
 |false =>
  rw[ha]at h;cases v with
  |one l =>
   simp only at h;rw[if_neg (by simp)];exact L.zJt h hr
  |_=>simp at h
theorem zGs{t:Ty}{x:t.den}{u:Value}{N:Nat->Nat->Prop}(h:t.bP w N x u):jH β w N (zXv t x) u:=by
 unfold zXv;unfold Ty.bP at h;cases ha:t.isAgg with
 |true =>
  rw[ha,if_pos rfl]at h;obtain⟨cs,e,h⟩:=h;exact⟨cs,e,lC h⟩
 |false =>
  rw[ha,if_neg (by simp)]at h;simp only[jH,L.Rel];exact h
theorem yMj{t:Ty}{x:t.den}{u:Value}{N:Nat->Nat->Prop}(h:t.bP w N x u):(valTy t x).Rel β w N u:=by
 unfold valTy;unfold Ty.bP at h;cases ha:t.isAgg with
 |true =>
  rw[ha,if_pos rfl]at h;obtain⟨cs,e,h⟩:=h;exact⟨cs,e,lC h⟩
 |false =>
  rw[ha,if_neg (by simp)]at h;simp only[V.Rel,L.Rel];exact h
theorem zPa{P:Program}{et:TypeId}{te:TI}{vt:Ty}{z:vt.den}(hok:qZ P et te)(h:zOy te vt=some z)(w:World)(N:Nat->Nat->Prop):∃ u,(zeroValue et).run P w=.ok u w/\vt.bP w N z u:=by
 unfold zOy at h;split at h
 ·rename_i y hag hy;simp only[aA]at h;subst h;obtain⟨i0,u,hi0,his,hib,hz0,sV,hzs,yIb⟩:=hok.i;refine⟨u,by simp[zeroValue,typeInfo,hi0,hz0],?_⟩;obtain⟨c1,c2,e,h1,h2⟩:=uS hy (sV (λ_=>⟨false,false,0,none,0,0,0,[]⟩) w N);simp only[aG]at h2;subst h2;rw[List.append_nil]at e;have hag:=(beq_iff_eq.1 hag).symm.trans yIb;unfold Ty.bP;rw[hag];cases u<;>simp only[Qk,Bool.false_eq_true,if_false,if_true]
  case agg cs=>exact⟨cs.toList,by simp,by simpa [Value.cells]using e ▸ h1⟩
  all_goals (simp only[Value.cells]at e;rw[show([_]:List Value)=c1 from e];exact h1)
 ·cases h
theorem zMs{dk:TypeDesc}{kt:Ty}(hk:zDe (TK.of dk) kt=true){N:Nat->Nat->Prop}{x:kt.den}{u:Value}(h:kt.bP w N x u):(∃ (j:IntKind) (n:Int),kt=.int j/\dk=.int j/\u=.int j n/\HEq x n)\/(∃ s:List UInt8,kt=.str/\dk=.string/\u=.string ⟨s.toArray⟩/\HEq x s):=by
 cases dk<;>simp only[TK.of,zDe]at hk<;>try (cases kt<;>simp at hk)
 ·subst hk;simp only[Ty.bP,Ty.isAgg,Bool.false_eq_true,if_false,Ty.Rel,aJ,and_true]at h;exact .inl ⟨_,x,rfl,rfl,h,HEq.rfl⟩
 ·simp only[Ty.bP,Ty.isAgg,Bool.false_eq_true,if_false,Ty.Rel,aJ,and_true]at h;exact .inr ⟨x,rfl,rfl,h,HEq.rfl⟩
theorem Zq{P:Program}{t:TypeId}{dk:TypeDesc}{kt:Ty}{b:Bool}{n:Nat}(hu:P.underlying t=some dk)(hk:zDe (TK.of dk) kt=true){N:Nat->Nat->Prop}{x:kt.den}{u:Value}(h:kt.bP w N x u):(Instr.checkKey b (n+1) t u).run P w=.ok () w:=by
 have hr:(underlying t).run P w=.ok dk w:=by simp[underlying,hu]
 simp only[Instr.checkKey,Sem.run_bind,hr,Result.andThen_ok];rcases zMs hk h with ⟨j,m,_,rfl,rfl,_⟩|⟨s,_,rfl,rfl,_⟩<;>rfl
theorem yIc{dk:TypeDesc}{kt:Ty}(hk:zDe (TK.of dk) kt=true){N:Nat->Nat->Prop}{x y:kt.den}{u v:Value}(hx:kt.bP w N x u)(hy:kt.bP w N y v):Instr.sameNow dk u v=some (kt.beq x y):=by
 rcases zMs hk hx with ⟨j,m,e,rfl,rfl,hm⟩|⟨s,e,rfl,rfl,hm⟩
 ·subst e;simp only[Ty.bP,Ty.isAgg,Bool.false_eq_true,if_false,Ty.Rel,aJ,and_true]at hy;obtain rfl:=eq_of_heq hm;subst hy;simp[Instr.sameNow,Ty.beq,Ty.beq.Int.beq']
 ·subst e;simp only[Ty.bP,Ty.isAgg,Bool.false_eq_true,if_false,Ty.Rel,aJ,and_true]at hy;obtain rfl:=eq_of_heq hm;subst hy;simp only[Instr.sameNow,bytes_beq,Ty.beq,Ty.beq.List.beq']
theorem zLk{dk:TypeDesc}{kt:Ty}(hk:zDe (TK.of dk) kt=true){N:Nat->Nat->Prop}{x y:kt.den}{u v:Value}(hx:kt.bP w N x u)(hy:kt.bP w N y v)(hb:kt.beq x y=true):Instr.sameBits 10000 v u=true:=by
 rcases zMs hk hx with ⟨j,m,e,rfl,rfl,hm⟩|⟨s,e,rfl,rfl,hm⟩
 ·subst e;simp only[Ty.bP,Ty.isAgg,Bool.false_eq_true,if_false,Ty.Rel,aJ,and_true]at hy;obtain rfl:=eq_of_heq hm;subst hy;simp only[Ty.beq,Ty.beq.Int.beq',beq_iff_eq]at hb;subst hb;simp[Instr.sameBits]
 ·subst e;simp only[Ty.bP,Ty.isAgg,Bool.false_eq_true,if_false,Ty.Rel,aJ,and_true]at hy;obtain rfl:=eq_of_heq hm;subst hy;simp only[Ty.beq,Ty.beq.List.beq',beq_iff_eq]at hb;subst hb;simp only[Instr.sameBits,bytes_beq,beq_self_eq_true]
theorem Tv{dk:TypeDesc}{kt vt:Ty}(hk:zDe (TK.of dk) kt=true){N:Nat->Nat->Prop}{x:kt.den}{u:Value}(hx:kt.bP w N x u):∀ (es:List (kt.den × vt.den)) (ms:List MapEntry) (i:Nat),bD (λ(x:kt.den × vt.den) (m:MapEntry)=>kt.bP w N x.1 m.key/\vt.bP w N x.2 m.val) es ms ->
  match gH kt es x with
  |some y=>∃ m e,Instr.findNow dk u ms i=some (some (i+mIdx kt es x,m.val))/\ms[mIdx kt es x]?=some m/\es[mIdx kt es x]?=some e/\e.2=y/\vt.bP w N y m.val/\kt.bP w N e.1 m.key/\kt.beq x e.1=true
  |none=>Instr.findNow dk u ms i=some none
 |[],[],i,_=>by simp[gH,Instr.findNow]
 |[],_::_,_,h=>h.elim
 |_::_,[],_,h=>h.elim
 |e::es,m::ms,i,h=>by
  obtain⟨⟨h1,h2⟩,h3⟩:=h;simp only[gH,mIdx,Instr.findNow,yIc hk hx h1];cases hb:kt.beq x e.1 with
  |true=>exact⟨m,e,rfl,rfl,rfl,rfl,h2,h1,hb⟩
  |false =>
   have ih:=Tv hk hx es ms (i+1) h3;simp only;cases hf:gH kt es x with
   |none=>rw[hf]at ih;exact ih
   |some y =>
    rw[hf]at ih;obtain⟨m',e',g1,g2,g3,g4,g5,g6,g7⟩:=ih;exact⟨m',e',by rw[g1];congr 3;omega,by simpa using g2,by simpa using g3,g4,g5,g6,g7⟩
theorem nQ.size{N:Nat->Nat->Prop}{kt vt:Ty}{es:List (kt.den × vt.den)}{ms:Array MapEntry}(h:nQ w N kt vt es ms):es.length=ms.size:=by
 rw[h.1.length];simp
theorem nQ.push{N:Nat->Nat->Prop}{kt vt:Ty}{es:List (kt.den × vt.den)}{ms:Array MapEntry}{x:kt.den}{y:vt.den}{u v:Value}(h:nQ w N kt vt es ms)(hx:kt.bP w N x u)(hy:vt.bP w N y v):nQ w N kt vt (es++[(x,y)]) (ms.push { key:=u,val:=v,born:=ms.size }):=by
 refine⟨by rw[Array.toList_push];exact h.1.append ⟨⟨hx,hy⟩,trivial⟩,λi m hm=>?_⟩;rw[Array.getElem?_push]at hm;split at hm
 ·rename_i e;simp only[aA]at hm;subst hm;exact e.symm
 ·exact h.2 i m hm
theorem nQ.put{N:Nat->Nat->Prop}{kt vt:Ty}{es:List (kt.den × vt.den)}{ms:Array MapEntry}{x:kt.den}{y:vt.den}{i:Nat}{m:MapEntry}{f:MapEntry->MapEntry}(h:nQ w N kt vt es ms)(hm:ms[i]?=some m)(hb:(f m).born=m.born)(hx:kt.bP w N x (f m).key)(hy:vt.bP w N y (f m).val):nQ w N kt vt (es.set i (x,y)) (ms.modify i f):=by
 have hml:(ms.modify i f).toList=ms.toList.set i (f m):=by
  apply List.ext_getElem?;intro j;rw[Array.getElem?_toList,Array.getElem?_modify,List.getElem?_set];have hi:i<ms.size:=(Array.getElem?_eq_some_iff.1 hm).1;by_cases hij:i=j
  ·subst hij;obtain⟨_,he⟩:=Array.getElem?_eq_some_iff.1 hm;simp[hi,he]
  ·simp[hij]
 refine⟨by rw[hml];exact h.1.set i ⟨hx,hy⟩,λj m' hm'=>?_⟩;rw[Array.getElem?_modify]at hm';split at hm'
 ·rename_i e;subst e;rw[hm]at hm';simp only[Option.map_some,aA]at hm';subst hm';rw[hb];exact h.2 i m hm
 ·exact h.2 j m' hm'
theorem findIdx_born{ms:Array MapEntry}(hb:∀ (i:Nat) (m:MapEntry),ms[i]?=some m->m.born=i){i:Nat}(hi:i<ms.size):ms.findIdx? (λe=>(e.born:Int)==(i:Int))=some i:=by
 rw[Array.findIdx?_eq_some_iff_getElem];refine⟨hi,?_,λj hj=>?_⟩
 ·have:=hb i ms[i] (by simp[hi]);simp[this]
 ·have:=hb j ms[j] (by simp);simp[this];try omega
def World.mX (w:World) (b:Nat) (ms:Array MapEntry) (n:Nat):World := { w with heap:=w.heap.setIfInBounds b (.map ms n) }
theorem Pz{b n:Nat}{ms:Array MapEntry}:Keep (λk _=>k=b) w (World.mX w b ms n):=Keep.mP (M:=λk=>k=b) (by simp[World.mX]) (λk _ hn=>by simp only[World.mX];rw[Array.getElem?_setIfInBounds_ne (λe=>hn e.symm)]) (λ_ _ h=>h)
theorem zGt{b n:Nat}{ms:Array MapEntry}(hb:b<w.heap.size):(World.mX w b ms n).heap[b]?=some (.map ms n):=by
 simp only[World.mX];rw[Array.getElem?_setIfInBounds_self_of_lt hb]
theorem Sim.zPb{σ:St}{a:Act}{id b:Nat}{kt vt:Ty}{es es':List (kt.den × vt.den)}{ms ms':Array MapEntry}(hs:Sim C β σ a w)(hob:σ.h[id]?=some (.dm kt vt es))(ho:(β id).blk=some b)(hm:w.heap[b]?=some (.map ms ms.size))(he:nQ w (C.N β σ.h) kt vt es' ms'):Moves β β/\Keep (C.N β σ.h) w (World.mX w b ms' ms'.size)/\Sim C β { σ with h:=σ.h.set id (.dm kt vt es') } a (World.mX w b ms' ms'.size):=by
 have hb:b<w.heap.size:=(Array.getElem?_eq_some_iff.1 hm).1;have hO:=hs.heap.obj id _ hob;simp only[Ob.Rel]at hO;obtain⟨o1,o2,_⟩:=hO;have hm0:Moves β (upd β id (β id)):=by rw[vC];exact Moves.refl β
 have hkN:Keep (C.N β σ.h) w (World.mX w b ms' ms'.size):=Pz.weaken λk j hk=>.inr ⟨id,_,hob,rfl,Ob.mH (by rw[hk];exact ho)⟩
 have Dq:=hs.set (id:=id) (o:=.dm kt vt es') (p:=β id) (w':=World.mX w b ms' ms'.size) hob (λ_=>rfl) (.inl rfl) (Pz.weaken λk _ hk=>by subst hk;exact⟨ho,rfl⟩) ⟨rfl,rfl,rfl⟩ hm0 (by
  simp only[Ob.Rel];refine⟨o1,o2,b,ms',ho,zGt hb,he.mono hkN λk j _ hn=>?_⟩;exact xS (id:=id) (p:=β id) hob (at_set (λ_=>rfl) (.inl rfl) rfl) (by assumption) hn)
 rw[vC]at Dq;exact⟨Moves.refl β,hkN,Dq⟩
theorem zBe{P:Program}{t kt et:TypeId}{ti:TI}(hok:qZ P t ti)(hk:ti.k=.map kt et):P.underlying t=some (.map kt et):=by
 obtain⟨d,hd,hdk⟩:=hok.und;rw[hk]at hdk;cases d<;>simp[TK.of]at hdk
 obtain⟨rfl,rfl⟩:=hdk;exact hd
theorem zPc{σ:St}{a:Act}{m:Operand}{id:Nat}(hs:Sim C β σ a w)(hm:ovl σ m=.one (.mp id)):∃ b,(β id).blk=some b/\a.eval m=.map (some b):=by
 have hmv:=aY hs m;rw[hm]at hmv;simp only[V.Rel,L.Rel]at hmv;obtain⟨_,_,b,e1,e2⟩:=hmv;exact⟨b,e1,by simpa using e2⟩
theorem zZg{σ:St}{a:Act}{o:Oper}{t:TypeId}{m k x:Operand}{v:V}{h':List Ob}(hT:bM C.P T)(hs:Sim C β σ a w)(ho:(execOp a.eval o).run C.P w=(do Instr.mapUpdate t (a.eval m) (a.eval k) (a.eval x);pure Next.skip:Sem Next).run C.P w)(h:zSm T σ t m k x=some (true,v,h')):After C β σ a w o v h':=by
 unfold zSm at h;split at h
 ·rename_i ti id hti hm;obtain⟨b,hbl,e2⟩:=zPc hs hm;split at h
  ·rename_i kt et tab hk hob;split at h
   ·rename_i tk key f htk hkey hf;split at h
    ·rename_i hb;simp only[aD,Bool.not_eq_true']at hb;obtain⟨b1,b2,b3⟩:=hb;simp only[aA,aB,true_and]at h;obtain⟨rfl,rfl⟩:=h;have hd:=zBe (hT _ _ hti) hk;obtain⟨dk,Kz,zDg⟩:=(hT _ _ htk).und;have hO:=hs.heap.obj id _ hob;simp only[Ob.Rel]at hO;obtain⟨o1,o2,b',es,n,o3,o4,o5⟩:=hO;rw[hbl]at o3;obtain rfl:=Option.some.inj o3;have hkv:=zUo hkey (aY hs k);have hfv:=yPv hf (aY hs x);have hnone:kP tab key=none:=by
      have:=Yr tab key;rw[b3]at this;cases hq:kP tab key with
      |none=>rfl
      |some q=>rw[hq]at this;simp at this
     rw[<- zDg]at b1 b2;obtain⟨r,hr,hr2⟩:=Zp b1 b2 o5;rw[hnone]at hr2;subst hr2;have hb:b<w.heap.size:=(Array.getElem?_eq_some_iff.1 o4).1
     let ne:MapEntry:={ key:=key.v,val:=.func (.func f) #[] #[],born:=n }
     have hu1:(underlying t).run C.P w=.ok (.map kt et) w:=by simp[underlying,hd]
     have hu2:(underlying kt).run C.P w=.ok dk w:=by simp[underlying,Kz]
     have hget:(getObj b).run C.P w=.ok (.map es n) w:=by simp[getObj,Sem.run,o4]
     have hset:(setObj b (.map (es.push ne) (n+1))).run C.P w=.ok () (World.mX w b (es.push ne) (n+1)):=by simp[setObj,Sem.run,o4,World.mX]
     have hck:=Vp (w:=w) (b:=false) (n:=9999) Kz b1;have hm0:Moves β (upd β id (β id)):=by rw[vC];exact Moves.refl β
     have Dq:=hs.set (id:=id) (o:=.fm (tab++[(key,f)])) (p:=β id) (w':=World.mX w b (es.push ne) (n+1)) hob (λ_=>rfl) (.inl rfl) (Pz.weaken λk _ hk=>by subst hk;exact⟨hbl,rfl⟩) ⟨rfl,rfl,rfl⟩ hm0 (by
      simp only[Ob.Rel];refine⟨o1,o2,b,es.push ne,n+1,hbl,zGt hb,λe he=>?_,λq hq=>?_⟩
      ·rw[Array.toList_push]at he;rcases List.mem_append.1 he with he|he
       ·obtain⟨x',f',g1,g2,g3⟩:=o5.1 e he;exact⟨x',f',g1,g2,zUm g3⟩
       ·obtain rfl:=List.mem_singleton.1 he;exact⟨key,f,rfl,rfl,zUn hnone⟩
      ·rw[Array.toList_push];rcases List.mem_append.1 hq with hq|hq
       ·obtain⟨e,he,g⟩:=o5.2 q hq;exact⟨e,List.mem_append_left _ he,g⟩
       ·obtain rfl:=List.mem_singleton.1 hq;exact⟨ne,List.mem_append_right _ (List.mem_singleton.2 rfl),rfl⟩)
     rw[vC]at Dq;refine⟨β,_,.skip,undef,?_,.inr ⟨rfl,rfl⟩,Moves.refl β,Pz.weaken λk _ hk=>.inr ⟨id,_,hob,rfl,Ob.mH (by rw[hk];exact hbl)⟩,Dq,?_⟩
     ·rw[ho];simp only[e2,hkv,hfv,Instr.mapUpdate,Sem.run_bind,hu1,Result.andThen_ok,hget,hck,Instr.findKey,hu2,hr,Sem.run_pure,hset,ne]
     ·exact⟨[],rfl,trivial⟩
    ·cases h
   ·cases h
  ·rename_i kt et kty vty es hk hob;split at h
   ·rename_i tk key y htk hkey hy;split at h
    ·rename_i b1;simp only[aA,aB,true_and]at h;obtain⟨rfl,rfl⟩:=h;have hd:=zBe (hT _ _ hti) hk;obtain⟨dk,Kz,zDg⟩:=(hT _ _ htk).und;have hO:=hs.heap.obj id _ hob;simp only[Ob.Rel]at hO;obtain⟨o1,o2,b',ms,o3,o4,o5⟩:=hO;rw[hbl]at o3;obtain rfl:=Option.some.inj o3;have hkv:=toTy_rel hkey (aY hs k);have hyv:=toTy_rel hy (aY hs x);rw[<- zDg]at b1;have hu1:(underlying t).run C.P w=.ok (.map kt et) w:=by simp[underlying,hd]
     have hu2:(underlying kt).run C.P w=.ok dk w:=by simp[underlying,Kz]
     have hget:(getObj b).run C.P w=.ok (.map ms ms.size) w:=by simp[getObj,Sem.run,o4]
     have hset:∀ ms' n,(setObj b (.map ms' n)).run C.P w=.ok () (World.mX w b ms' n):=λms' n=>by simp[setObj,Sem.run,o4,World.mX]
     have hck:=Zq (b:=false) (n:=9999) Kz b1 hkv;have hfi:=Tv b1 hkv es ms.toList 0 o5.1;unfold wK;cases hq:gH kty es key with
     |none =>
      rw[hq]at hfi;simp only at hfi;have hE:=o5.push hkv hyv;obtain⟨s1,s2,s3⟩:=hs.zPb hob hbl o4 hE;rw[Array.size_push]at s2 s3;refine⟨β,_,.skip,undef,?_,.inr ⟨rfl,rfl⟩,s1,s2,s3,⟨[],rfl,trivial⟩⟩;rw[ho];simp only[e2,Instr.mapUpdate,Sem.run_bind,hu1,Result.andThen_ok,hget,hck,Instr.findKey,hu2,hfi,Sem.run_pure,hset]
     |some y0 =>
      rw[hq]at hfi;obtain⟨mm,ee,f1,f2,f3,f4,f5,f6,f7⟩:=hfi;rw[Nat.zero_add]at f1;rw[Array.getElem?_toList]at f2;have hsb:=zLk b1 hkv f6 f7;have hE:=nQ.put (i:=mIdx kty es key) (x:=key) (y:=y) (m:=mm) (f:=λe=>{ e with key:=a.eval k,val:=a.eval x }) o5 f2 rfl hkv hyv;obtain⟨s1,s2,s3⟩:=hs.zPb hob hbl o4 hE;rw[Array.size_modify]at s2 s3;refine⟨β,_,.skip,undef,?_,.inr ⟨rfl,rfl⟩,s1,s2,s3,⟨[],rfl,trivial⟩⟩;rw[ho];simp only[e2,Instr.mapUpdate,Sem.run_bind,hu1,Result.andThen_ok,hget,hck,Instr.findKey,hu2,f1,Sem.run_pure,Instr.keyThatStays,f2,Option.map_some,Option.getD_some,hsb,if_true,hset]
    ·cases h
   ·cases h
  ·cases h
 ·cases h
theorem zZh{N:Nat->Nat->Prop}{kt vt:Ty}{z:vt.den}{u zu:Value}{es:List (kt.den × vt.den)}{key:kt.den}(hz:vt.bP w N z zu)(h:match gH kt es key with|some y=>vt.bP w N y u|none=>u=zu):vt.bP w N (jK kt z es key) u:=by
 unfold jK;cases hq:gH kt es key with
 |none=>rw[hq]at h;simp only at h ⊢;rw[h];exact hz
 |some y=>rw[hq]at h;exact h
theorem yMk{σ:St}{a:Act}{o:Oper}{v:V}{h':List Ob}(hT:bM C.P T)(hs:Sim C β σ a w)(h:stepM T σ o=some (true,v,h')):After C β σ a w o v h':=by
 unfold stepM at h;split at h
 ·rename_i t ho;have mk:∀ (ob:Ob),ob.sU=false->(∀ (p:Pl) (β':Nat->Pl) (N:Nat->Nat->Prop),p=⟨true,true,0,some w.heap.size,0,0,0,[]⟩->ob.Rel β' (w.alloc (.map #[] 0)) N p)->v=.one (.mp σ.h.length)->h'=σ.h++[ob]->After C β σ a w o v h':=by
   rintro ob htip hrel rfl rfl
   let p:Pl:=⟨true,true,0,some w.heap.size,0,0,0,[]⟩
   refine⟨upd β σ.h.length p,w.alloc (.map #[] 0),.value (.map (some w.heap.size)),.map (some w.heap.size),?_,.inl rfl,rP hs.heap p,(dX w _).weaken λ_ _ h=>h.elim,hs.push (p:=p) (.inr ⟨rfl,by simp⟩) (dX w _) (Kv _ _) ?_ (by simp[Ob.plain,htip]),?_⟩
   ·simp only[execOp,ho,Instr.makeMap,Option.map_none,Sem.run_bind,run_newObj,Result.andThen_ok,Sem.run_pure];rfl
   ·exact hrel p _ _ rfl
   ·simp only[V.Rel,L.Rel,upd_same];exact⟨rfl,rfl,w.heap.size,rfl,rfl⟩
  split at h
  ·split at h
   ·split at h
    ·split at h
     ·simp only[aA,aB,true_and]at h;obtain⟨rfl,rfl⟩:=h;refine mk (.fm []) rfl (λp β' N hp=>?_) rfl rfl;subst hp;simp only[Ob.Rel];exact⟨trivial,trivial,w.heap.size,#[],0,rfl,by rw[heap_alloc_new],(show Cv [] []from ⟨by simp,by simp⟩)⟩
     ·split at h
      ·rename_i kty vty _ _;simp only[aA,aB,true_and]at h;obtain⟨rfl,rfl⟩:=h;refine mk (.dm kty vty []) rfl (λp β' N hp=>?_) rfl rfl;subst hp;simp only[Ob.Rel];exact⟨trivial,trivial,w.heap.size,#[],rfl,by rw[heap_alloc_new];rfl,trivial,λi m hm=>by simp at hm⟩
      ·cases h
    ·cases h
   ·cases h
  ·cases h
 ·rename_i t m k x ho;exact zZg hT hs (by simp only[execOp,ho]) h
 ·rename_i t m k x ho;exact zZg hT hs (by simp only[execOp,ho]) h
 ·rename_i t m k ok ho;split at h
  ·rename_i ti id hti hm;obtain⟨b,hbl,e2⟩:=zPc hs hm;split at h
   ·rename_i kt et tab hk hob;split at h
    ·rename_i key tk te hkey htk hte;split at h
     ·rename_i hb hz;simp only[aD,Bool.not_eq_true']at hb;obtain⟨b1,b2,b3⟩:=hb;simp only[aA,aB,true_and]at h;obtain⟨rfl,rfl⟩:=h;have hd:=zBe (hT _ _ hti) hk;obtain⟨dk,Kz,zDg⟩:=(hT _ _ htk).und;have hO:=hs.heap.obj id _ hob;simp only[Ob.Rel]at hO;obtain⟨o1,o2,b',es,n,o3,o4,o5⟩:=hO;rw[hbl]at o3;obtain rfl:=Option.some.inj o3;have hkv:=zUo hkey (aY hs k);rw[<- zDg]at b1 b2;obtain⟨r,hr,hr2⟩:=Zp b1 b2 o5;obtain⟨i0,z,hi0,his,hib,hz0,sV,hzs,yIb⟩:=(hT _ _ hte).i;rw[b3]at yIb;have hzr:=sV β w (C.N β σ.h);rw[hz]at hzr;have hzn:z=.nilFunc:=by
       obtain⟨c1,c2,e,r1,r2⟩:=hzr;simp only[aG]at r2;subst r2;simp only[L.Rel,Ty.Rel]at r1;rw[r1.1,List.append_nil]at e;cases z<;>simp[Value.cells,Qk]at e yIb ⊢
      have hu1:(underlying t).run C.P w=.ok (.map kt et) w:=by simp[underlying,hd]
      have hu2:(underlying kt).run C.P w=.ok dk w:=by simp[underlying,Kz]
      have hget:(getObj b).run C.P w=.ok (.map es n) w:=by simp[getObj,Sem.run,o4]
      have hck:=Vp (w:=w) (b:=es.isEmpty) (n:=9999) Kz b1;have hzv:(zeroValue et).run C.P w=.ok .nilFunc w:=by simp[zeroValue,typeInfo,hi0,hz0,hzn]
      refine After.read hs ⟨.tuple #[zOq key tab,.bool (memT tab key)],?_,[_,_],rfl,?_⟩
      ·rw[Yr];unfold zOq;cases hq:kP tab key with
       |none =>
        rw[hq]at hr2;subst hr2;simp only[execOp,ho,e2,hkv,Instr.lookup,Sem.run_bind,hu1,Result.andThen_ok,hget,hck,Instr.findKey,hu2,hr,Sem.run_pure,hzv];rfl
       |some f =>
        rw[hq]at hr2;obtain⟨j,rfl⟩:=hr2;simp only[execOp,ho,e2,hkv,Instr.lookup,Sem.run_bind,hu1,Result.andThen_ok,hget,hck,Instr.findKey,hu2,hr,Sem.run_pure];rfl
      ·exact⟨by simp only[jH,L.Rel],by simp only[jH,L.Rel,Ty.Rel],trivial⟩
     ·cases h
    ·cases h
   ·rename_i kt et kty vty es hk hob;split at h
    ·rename_i key tk te hkey htk hte;split at h
     ·rename_i z b1 hz;have hd:=zBe (hT _ _ hti) hk;obtain⟨dk,Kz,zDg⟩:=(hT _ _ htk).und;have hO:=hs.heap.obj id _ hob;simp only[Ob.Rel]at hO;obtain⟨o1,o2,b',ms,o3,o4,o5⟩:=hO;rw[hbl]at o3;obtain rfl:=Option.some.inj o3;have hkv:=toTy_rel hkey (aY hs k);rw[<- zDg]at b1;obtain⟨zu,hzv,hzr⟩:=zPa (hT _ _ hte) hz w (C.N β σ.h);have hu1:(underlying t).run C.P w=.ok (.map kt et) w:=by simp[underlying,hd]
      have hu2:(underlying kt).run C.P w=.ok dk w:=by simp[underlying,Kz]
      have hget:(getObj b).run C.P w=.ok (.map ms ms.size) w:=by simp[getObj,Sem.run,o4]
      have hck:=Zq (b:=ms.isEmpty) (n:=9999) Kz b1 hkv;have hfi:=Tv b1 hkv es ms.toList 0 o5.1;have key1:∃ u,(Instr.lookup t (.map (some b)) (a.eval k) ok).run C.P w=.ok (if ok then .tuple #[u,.bool (zSl kty es key)]else u) w/\vty.bP w (C.N β σ.h) (jK kty z es key) u:=by
       unfold zSl;cases hq:gH kty es key with
       |none =>
        rw[hq]at hfi;simp only at hfi;refine⟨zu,?_,zZh hzr (by rw[hq])⟩;simp only[Instr.lookup,Sem.run_bind,hu1,Result.andThen_ok,hget,hck,Instr.findKey,hu2,hfi,Sem.run_pure,hzv]
       |some y0 =>
        rw[hq]at hfi;obtain⟨mm,ee,f1,f2,f3,f4,f5,f6,f7⟩:=hfi;refine⟨mm.val,?_,zZh hzr (by rw[hq];exact f5)⟩;simp only[Instr.lookup,Sem.run_bind,hu1,Result.andThen_ok,hget,hck,Instr.findKey,hu2,f1,Sem.run_pure]
      obtain⟨u,k1,k2⟩:=key1;cases ok with
      |true =>
       simp only[aA,aB,true_and]at h;obtain⟨rfl,rfl⟩:=h;refine After.read hs ⟨.tuple #[u,.bool (zSl kty es key)],?_,[_,_],rfl,zGs k2,by simp only[jH,L.Rel,Ty.Rel],trivial⟩;simp only[execOp,ho,e2];rw[fI k1];rfl
      |false =>
       simp only[aA,aB,true_and]at h;obtain⟨rfl,rfl⟩:=h;refine After.read hs ⟨u,?_,yMj k2⟩;simp only[execOp,ho,e2];rw[fI k1];rfl
     ·cases h
    ·cases h
   ·cases h
  ·cases h
 ·rename_i t m k ho;split at h
  ·rename_i ti id hti hm;obtain⟨b,hbl,e2⟩:=zPc hs hm;split at h
   ·rename_i kt et kty vty es hk hob;split at h
    ·rename_i key tk te hkey htk hte;split at h
     ·rename_i z b1 hz;simp only[aA,aB,true_and]at h;obtain⟨rfl,rfl⟩:=h;have hd:=zBe (hT _ _ hti) hk;obtain⟨dk,Kz,zDg⟩:=(hT _ _ htk).und;have hO:=hs.heap.obj id _ hob;simp only[Ob.Rel]at hO;obtain⟨o1,o2,b',ms,o3,o4,o5⟩:=hO;rw[hbl]at o3;obtain rfl:=Option.some.inj o3;have hkv:=toTy_rel hkey (aY hs k);rw[<- zDg]at b1;obtain⟨zu,hzv,hzr⟩:=zPa (hT _ _ hte) hz w (C.N β σ.h);have hu1:(underlying t).run C.P w=.ok (.map kt et) w:=by simp[underlying,hd]
      have hu2:(underlying kt).run C.P w=.ok dk w:=by simp[underlying,Kz]
      have hget:(getObj b).run C.P w=.ok (.map ms ms.size) w:=by simp[getObj,Sem.run,o4]
      have hset:∀ ms' n,(setObj b (.map ms' n)).run C.P w=.ok () (World.mX w b ms' n):=λms' n=>by simp[setObj,Sem.run,o4,World.mX]
      have hck:=Zq (b:=false) (n:=9999) Kz b1 hkv;have hfi:=Tv b1 hkv es ms.toList 0 o5.1;have hNk:∀ {u:Value}{x:vty.den}{w':World}(h2:List Ob),vty.bP w (C.N β σ.h) x u->Keep (C.N β σ.h) w w'->(∀ b j,b<w.heap.size->C.N β h2 b j->C.N β σ.h b j)->vty.bP w' (C.N β h2) x u:=λh2 hv hk hN=>hv.mono hk hN
      have hNo:∀ es',∀ b j,b<w.heap.size->C.N β (σ.h.set id (.dm kty vty es')) b j->C.N β σ.h b j:=λes' b j hlt hn =>
       xS (id:=id) (p:=β id) hob (at_set (λ_=>rfl) (.inl rfl) rfl) hlt (by rw[vC];exact hn)
      unfold wK;cases hq:gH kty es key with
      |none =>
       rw[hq]at hfi;simp only at hfi;have hg:jK kty z es key=z:=by unfold jK;rw[hq]
       have hix:mIdx kty es key=es.length:=by
        have:∀ (l:List (kty.den × vty.den)),gH kty l key=none->mIdx kty l key=l.length:=by
         intro l;induction l with
         |nil=>intro _;rfl
         |cons e l ih =>
          intro hl;simp only[gH]at hl;simp only[mIdx,List.length_cons];cases hb:kty.beq key e.1 with
          |true=>rw[hb]at hl;cases hl
          |false =>
           rw[hb]at hl;simp only;rw[ih hl]
        exact this es hq
       have hE:=o5.push hkv (show vty.bP w (C.N β σ.h) (jK kty z es key) zu by rw[hg];exact hzr);obtain⟨s1,s2,s3⟩:=hs.zPb hob hbl o4 hE;rw[Array.size_push]at s2 s3;refine⟨β,_,.value (.tuple #[zu,goInt ms.size]),.tuple #[zu,goInt ms.size],?_,.inl rfl,s1,s2,s3,?_⟩
       ·simp only[execOp,ho,e2,Instr.mapEntry,Sem.run_bind,hu1,Result.andThen_ok,hget,hck,Instr.findKey,hu2,hfi,Sem.run_pure,hset,hzv]
       ·refine⟨[_,_],rfl,zGs (hNk _ (by rw[hg];exact hzr) s2 (hNo _)),?_,trivial⟩;simp only[jH,L.Rel,Ty.Rel,goInt,hix,o5.size]
      |some y0 =>
       rw[hq]at hfi;obtain⟨mm,ee,f1,f2,f3,f4,f5,f6,f7⟩:=hfi;rw[Nat.zero_add]at f1;rw[Array.getElem?_toList]at f2;have hsb:=zLk b1 hkv f6 f7;have hg:jK kty z es key=y0:=by unfold jK;rw[hq]
       have hE:=nQ.put (i:=mIdx kty es key) (x:=key) (y:=jK kty z es key) (m:=mm) (f:=λe=>{ e with key:=a.eval k }) o5 f2 rfl hkv (by rw[hg];exact f5);obtain⟨s1,s2,s3⟩:=hs.zPb hob hbl o4 hE;rw[Array.size_modify]at s2 s3;refine⟨β,_,.value (.tuple #[mm.val,goInt (mIdx kty es key)]),.tuple #[mm.val,goInt (mIdx kty es key)],?_,.inl rfl,s1,s2,s3,?_⟩
       ·simp only[execOp,ho,e2,Instr.mapEntry,Sem.run_bind,hu1,Result.andThen_ok,hget,hck,Instr.findKey,hu2,f1,Sem.run_pure,Instr.keyThatStays,f2,Option.map_some,Option.getD_some,hsb,if_true,hset,o5.2 _ _ f2]
       ·refine⟨[_,_],rfl,zGs (hNk _ (hg ▸ f5) s2 (hNo _)),?_,trivial⟩;simp only[jH,L.Rel,Ty.Rel,goInt]
     ·cases h
    ·cases h
   ·cases h
  ·cases h
 ·rename_i t m s x ho;split at h
  ·rename_i id i hm hsv;obtain⟨b,hbl,e2⟩:=zPc hs hm;split at h
   ·rename_i kty vty es hob;split at h
    ·rename_i y hy;simp only[aA,aB]at h;obtain⟨hin,rfl,rfl⟩:=h;obtain⟨g1,g2,g3⟩:=Dm hin;have hO:=hs.heap.obj id _ hob;simp only[Ob.Rel]at hO;obtain⟨o1,o2,b',ms,o3,o4,o5⟩:=hO;rw[hbl]at o3;obtain rfl:=Option.some.inj o3;have hyv:=toTy_rel hy (aY hs x);have hsr:=aY hs s;rw[hsv]at hsr;simp only[V.Rel,L.Rel,Ty.Rel,aJ,and_true]at hsr;have hms:i.toNat<ms.size:=by rw[<- o5.size];exact g3
     have hmi:ms[i.toNat]?=some ms[i.toNat]:=by simp[hms]
     have hei:es[i.toNat]?=some es[i.toNat]:=by simp[g3]
     have hrel:=o5.1.get i.toNat g3 (by simpa using hms);simp only[Array.getElem_toList]at hrel;have hget:(getObj b).run C.P w=.ok (.map ms ms.size) w:=by simp[getObj,Sem.run,o4]
     have hset:∀ ms' n,(setObj b (.map ms' n)).run C.P w=.ok () (World.mX w b ms' n):=λms' n=>by simp[setObj,Sem.run,o4,World.mX]
     have hE:=nQ.put (i:=i.toNat) (x:=es[i.toNat].1) (y:=y) (m:=ms[i.toNat]) (f:=λe=>{ e with val:=a.eval x }) o5 hmi rfl hrel.1 hyv;obtain⟨s1,s2,s3⟩:=hs.zPb hob hbl o4 hE;rw[Array.size_modify]at s2 s3;have hfx:=findIdx_born o5.2 hms;rw[Int.toNat_of_nonneg g1]at hfx;have hpe:yPu kty es i y=es.set i.toNat (es[i.toNat].1,y):=by unfold yPu;rw[hei]
     rw[hpe];refine⟨β,_,.skip,undef,?_,.inr ⟨rfl,rfl⟩,s1,s2,s3,⟨[],rfl,trivial⟩⟩;have hai:(asInt (.int .i64 i)).run C.P w=.ok i w:=rfl;simp only[execOp,ho,e2,hsr,Instr.entryStore,Sem.run_bind,hget,Result.andThen_ok,hai,hfx,hset,Sem.run_pure]
    ·cases h
   ·cases h
  ·cases h
 ·cases h
end
end Go.Dec
namespace Go.Dec
section
variable {C:Ctx}
variable {T:Tab}
structure Turn (C:Ctx) (S:Nat->Prop) (h h':List Ob) (β β':Nat->Pl) (w w':World):Prop where
 len:h.length<=h'.length
 same:∀ i,i<h.length->¬ S i->h'[i]?=h[i]?/\β' i=β i
 new:∀ i,h.length<=i->i<h'.length->S i
 dead:∀ i,h'.length<=i->(β' i).live=false
 at':∀ i o b j,S i->h'[i]?=some o->b<w.heap.size->o.wr=true->o.at (β' i) b j->∃ i0 o0,S i0/\h[i0]?=some o0/\o0.wr=true/\o0.at (β i0) b j
 blks:∀ i o b,S i->h'[i]?=some o->o.blks (β' i) b->(∃ i0 o0,S i0/\h[i0]?=some o0/\o0.blks (β i0) b)\/(w.heap.size<=b/\b<w'.heap.size)
 apart:∀ i j o o' b,S i->S j->h'[i]?=some o->h'[j]?=some o'->o.blks (β' i) b->o'.blks (β' j) b->i=j
 keep:Keep (λb j=>∃ i o,S i/\h[i]?=some o/\o.at (β i) b j/\o.wr=true) w w'
 os:Same w w'
 moves:Moves β β'
theorem Turn.Yu{S:Nat->Prop}{h h':List Ob}{β β':Nat->Pl}{w w':World}(t:Turn C S h h' β β' w w'):Keep (C.N β h) w w' :=
 t.keep.weaken λ_ _ hb=>by obtain⟨i,o,_,h2,h3,h4⟩:=hb;exact .inr ⟨i,o,h2,h4,h3⟩
theorem Turn.owns{S:Nat->Prop}{h h':List Ob}{β β':Nat->Pl}{w w':World}(t:Turn C S h h' β β' w w'):∀ b j,b<w.heap.size->C.N β' h' b j->C.N β h b j:=λb j hlt hn=>by
 rcases hn with hn|⟨i,o,ho,hw,hbk⟩
 ·exact .inl hn
 ·by_cases hS:S i
  ·obtain⟨i0,o0,_,h2,h3,h4⟩:=t.at' i o b j hS ho hlt hw hbk;exact .inr ⟨i0,o0,h2,h3,h4⟩
  ·have hi:i<h.length:=by
    rcases jB i h.length with h1|h1
    ·exact h1
    ·exact absurd (t.new i h1 (bE.1 ho).1) hS
   obtain⟨e1,e2⟩:=t.same i hi hS;rw[e1]at ho;rw[e2]at hbk;exact .inr ⟨i,o,ho,hw,hbk⟩
theorem fB.re{S:Nat->Prop}{h h':List Ob}{β β':Nat->Pl}{w w':World}(hs:fB C β h w)(t:Turn C S h h' β β' w w')(ho:∀ i o,S i->h'[i]?=some o->o.Rel β' w' (C.N β' h') (β' i)):fB C β' h' w':=by
 have hN:=t.owns;have hkN:=t.Yu;have hcase:∀ {i o},h'[i]?=some o->(S i)\/(¬ S i/\h[i]?=some o/\β' i=β i):=λ{i o} hi=>by
  by_cases hS:S i
  ·exact .inl hS
  ·have hl:i<h.length:=by
    rcases jB i h.length with h1|h1
    ·exact h1
    ·exact absurd (t.new i h1 (bE.1 hi).1) hS
   obtain⟨e1,e2⟩:=t.same i hl hS;exact .inr ⟨hS,by rw[<- e1];exact hi,e2⟩
 refine⟨?_,t.dead,?_,?_,hs.n0,?_,Nat.le_trans hs.size hkN.size,t.os.os.trans hs.os,t.os.tape.trans hs.tape,t.os.output.trans hs.output,λj o hj=>?_⟩
 ·intro i o hi;rcases hcase hi with hS|⟨hS,h1,e⟩
  ·exact ho i o hS hi
  ·rw[e];exact(hs.obj i o h1).mono t.moves hkN hN λb hb=>t.keep.block b (hs.eY i o b h1 hb).2.1 λj ⟨i0,o0,g1,g2,g3,_⟩=>hS (by rw[hs.kR i i0 o o0 b h1 g2 hb ⟨j,g3⟩];exact g1)
 ·intro i j o1 o2 b h1 h2 hb1 hb2;rcases hcase h1 with hS1|⟨hS1,g1,e1⟩<;>rcases hcase h2 with hS2|⟨hS2,g2,e2⟩
  ·exact t.apart i j o1 o2 b hS1 hS2 h1 h2 hb1 hb2
  ·rw[e2]at hb2;rcases t.blks i o1 b hS1 h1 hb1 with ⟨i0,o0,k1,k2,k3⟩|⟨k1,_⟩
   ·have:=hs.kR i0 j o0 o2 b k2 g2 k3 hb2;subst this;exact absurd k1 hS2
   ·have:=(hs.eY j o2 b g2 hb2).2.1;omega
  ·rw[e1]at hb1;rcases t.blks j o2 b hS2 h2 hb2 with ⟨i0,o0,k1,k2,k3⟩|⟨k1,_⟩
   ·have:=hs.kR i i0 o1 o0 b g1 k2 hb1 k3;subst this;exact absurd k1 hS1
   ·have:=(hs.eY i o1 b g1 hb1).2.1;omega
  ·rw[e1]at hb1;rw[e2]at hb2;exact hs.kR i j o1 o2 b g1 g2 hb1 hb2
 ·intro i o b hi hb;rcases hcase hi with hS|⟨hS,h1,e⟩
  ·rcases t.blks i o b hS hi hb with ⟨i0,o0,k1,k2,k3⟩|⟨k1,k2⟩
   ·obtain⟨m1,m2,m3⟩:=hs.eY i0 o0 b k2 k3;refine⟨m1,Nat.lt_of_lt_of_le m2 hkN.size,?_⟩;rcases jB b C.w0.heap.size with hlt|hge
    ·refine .inr λj hw hk=>?_
     obtain⟨i1,o1,_,q2,q3,q4⟩:=t.at' i o b j hS hi m2 hw hk;rcases(hs.eY i1 o1 b q2 ⟨j,q4⟩).2.2 with q|q
     ·omega
     ·exact q j q3 q4
    ·exact .inl hge
   ·have h0:=hs.size;exact⟨λ_ hn=>by have:=hs.n0 _ _ hn;omega,k2,.inl (by omega)⟩
  ·rw[e]at hb ⊢;obtain⟨m1,m2,m3⟩:=hs.eY i o b h1 hb;exact⟨m1,Nat.lt_of_lt_of_le m2 hkN.size,m3⟩
 ·refine hs.frame.tN t.keep λb j hb hbb=>?_
  obtain⟨i0,o0,_,g2,g3,g4⟩:=hbb;rcases(hs.eY i0 o0 b g2 ⟨j,g3⟩).2.2 with h1|h1
  ·omega
  ·exact h1 j g4 g3
 ·obtain⟨k1,k2⟩:=hs.fixed j o hj;refine⟨Nat.lt_of_lt_of_le k1 t.len,λb hb=>?_⟩;obtain⟨k3,k4⟩:=k2 b hb;obtain⟨oj,hoj⟩:∃ oj,h[j]?=some oj:=⟨h[j],by simp[k1]⟩;rcases t.moves j (hs.obj j oj hoj).live with e|⟨e,_⟩
  ·rw[e];exact⟨k3,k4⟩
  ·rw[k4]at e;cases e
theorem Sim.re{S:Nat->Prop}{σ:St}{h':List Ob}{β β':Nat->Pl}{w w':World}{a:Act}(hs:Sim C β σ a w)(t:Turn C S σ.h h' β β' w w')(ho:∀ i o,S i->h'[i]?=some o->o.Rel β' w' (C.N β' h') (β' i)):Sim C β' ⟨σ.r,h'⟩ a w' :=
 ⟨hs.heap.re t ho,hs.defers,hs.size,λi v hv=>(hs.reg i v hv).mono t.moves t.Yu t.owns⟩
abbrev FrT:Ty:=.pair (.int .i64) (.pair (.int .i64) (.pair (.slice (.int .i64)) (.pair (.slice (.int .i64)) .unit)))
theorem Ht{e ei:TypeId}{ver:Nat}{rows:List (Int × Int × List Int × List Int × Unit)}{top:Option (List L)}{p:Pl}{bs:List Nat}(hsub:p.sub=bs.map (λq=>(q,0))){b j:Nat}:(Ob.stk e ei ver rows top).at p b j<->(p.blk=some b\/b∈bs):=by
 unfold Ob.at;constructor
 ·rintro(h|⟨_,m,hm,_⟩)
  ·exact .inl h
  ·rw[hsub]at hm;obtain⟨q,hq,e⟩:=List.mem_map.1 hm;simp only[aB]at e;rw[<- e.1];exact .inr hq
 ·rintro(h|h)
  ·exact .inl h
  ·exact .inr ⟨rfl,0,by rw[hsub];exact List.mem_map.2 ⟨b,h,rfl⟩,Nat.zero_le _⟩
theorem oV{e ei:TypeId}{ver:Nat}{rows:List (Int × Int × List Int × List Int × Unit)}{top:Option (List L)}{p:Pl}{bs:List Nat}(hsub:p.sub=bs.map (λq=>(q,0))){b:Nat}:(Ob.stk e ei ver rows top).blks p b<->(p.blk=some b\/b∈bs):=
 ⟨λ⟨_,h⟩=>(Ht hsub).1 h,λh=>⟨0,(Ht hsub).2 h⟩⟩
def zPd:V->Bool | .agg [_,_,.bJ,.bJ]=>true | _=>false
theorem yMl{β:Nat->Pl}{w:World}{N:Nat->Nat->Prop}{v:V}{x:Value}{y:Int × Int × List Int × List Int × Unit}{ei:TypeId}(hn:zPd v=true)(hv:v.Rel β w N x)(hy:FrT.Rel w N y x.cells.toList):iX w ei [y] x.cells.toList []:=by
 unfold zPd at hn;split at hn
 ·obtain⟨cs,rfl,hl⟩:=hv;obtain⟨c1,r1,e1,h1,hl⟩:=hl;obtain⟨c2,r2,e2,h2,hl⟩:=hl;obtain⟨c3,r3,e3,h3,hl⟩:=hl;obtain⟨c4,r4,e4,h4,hl⟩:=hl;simp only[aG]at hl;simp only[L.Rel]at h3 h4;subst hl h3 h4;simp only[List.append_nil]at e4;subst e4;have hc:(Value.agg cs.toArray).cells.toList=cs:=rfl;rw[hc]at hy ⊢;simp only[Ty.Rel]at hy;obtain⟨d1,q1,f1,rfl,d2,q2,f2,rfl,d3,q3,f3,⟨v3,rfl,k3⟩,d4,q4,f4,⟨v4,rfl,k4⟩,rfl⟩:=hy;subst f4 f3 f2;have e:c1++(c2++[Value.slice none 0 0,Value.slice none 0 0])=[.int .i64 y.1,.int .i64 y.2.1,v3,v4]:=by
   have f:=f1;rw[e1,e2,e3]at f;exact f
  have hlen:=congrArg List.length e;simp only[List.length_append,List.length_cons,List.length_nil]at hlen;have hd:[Value.slice none 0 0,Value.slice none 0 0]=[v3,v4]:=by
   have:=congrArg (List.drop 2) e;rw[<- List.append_assoc,List.drop_left' (by rw[List.length_append];omega)]at this;exact this
  simp only[aJ,and_true]at hd;obtain⟨rfl,rfl⟩:=hd;have nil:∀ {xs:List Int},zJs w N (Ty.int .i64).size (λx c=>(Ty.int .i64).Rel w N x c) xs (.slice none 0 0)->xs=[]:=by
   rintro xs (⟨_,h⟩|⟨b,off,cap,css,h,_⟩|⟨a,cap,h,_⟩)
   ·exact h
   ·simp at h
   ·simp at h
  refine⟨_,_,[],[],[],[],?_,rfl,.inl ⟨rfl,nil k3,rfl⟩,.inl ⟨rfl,nil k4,rfl⟩,rfl,rfl⟩;rw[f1];rfl
 ·cases hn
theorem zPe{β:Nat->Pl}{w:World}{N:Nat->Nat->Prop}{a:Operand->Value}{f:Operand->V}{ei:TypeId}:∀ {ps:List (Nat × Operand)}{ys:List (Int × Int × List Int × List Int × Unit)}(_:∀ p∈ps,zPd (f p.2)=true) (_:∀ p∈ps,(f p.2).Rel β w N (a p.2))
 (_:bD (λy c=>FrT.Rel w N y c) ys (ps.map λp=>(a p.2).cells.toList)),iX w ei ys (ps.map λp=>(a p.2).cells.toList).flatten []
 |[],[],_,_,_=>⟨rfl,rfl⟩
 |p::ps,y::ys,h1,h2,h3=>by
  have:=iX.append (yMl (ei:=ei) (h1 p (.head _)) (h2 p (.head _)) h3.1) (zPe (ps:=ps) (ys:=ys) (λq hq=>h1 q (.tail _ hq)) (λq hq=>h2 q (.tail _ hq)) h3.2);simpa using this
 |[],_::_,_,_,h=>h.elim
 |_::_,[],_,_,h=>h.elim
theorem yXv{β:Nat->Pl}{w:World}{σ:St}{a:Act}{e ei:TypeId}{rows:List (Int × Int × List Int × List Int × Unit)}{cs:Array Value}(hs:Sim C β σ a w)(hr:iX w ei rows cs.toList [])(hm:rows.length<=maxLen):∃ β',Moves β β'/\Sim C β' { σ with h:=σ.h++[.stk e ei 0 rows none] } a (w.alloc (.cells cs e)) /\
  (L.own σ.h.length 0).Rel β' (w.alloc (.cells cs e)) (C.N β' (σ.h++[.stk e ei 0 rows none])) [.slice (some ⟨w.heap.size,0,none⟩) rows.length rows.length]:=by
 let p:Pl:=⟨true,false,0,some w.heap.size,4,rows.length,rows.length,[]⟩
 have hk:=dX w (.cells cs e);have hlen:=hr.length;have hsz:cs.size=rows.length*4:=by rw[<- Array.length_toList];exact hlen
 refine⟨upd β σ.h.length p,rP hs.heap p,hs.zOv (p:=p) (λb hb=>?_) hk (Kv _ _) ?_,?_⟩
 ·rcases(oV (p:=p) (bs:=[]) rfl).1 hb with h|h
  ·simp only[p,aA]at h;subst h;exact⟨aP _,by simp⟩
  ·cases h
 ·simp only[Ob.Rel];refine⟨rfl,rfl,rfl,rfl,rfl,w.heap.size,cs,cs.toList,[],[],rfl,?_,hsz,aP _,hm,rfl,List.nodup_nil,List.not_mem_nil,?_,rfl,?_⟩
  ·rw[heap_alloc_new]
  ·exact hr.mono λb hb=>by cases hb
  ·rw[List.append_nil];exact List.take_of_length_le (by rw[hlen];exact aP _)
 ·simp only[L.Rel,upd_same];refine⟨rfl,rfl,aP _,_,rfl,rfl,λ_=>?_⟩;unfold eO;simp only[p];refine⟨by omega,0,rfl,.inl (by simp)⟩
theorem yEi{β:Nat->Pl}{w:World}{σ:St}{a:Act}{st e ei:TypeId}{ts ti:TI}{gQ gT:List (Int × Int × List Int × List Int × Unit)}{x y:Value}{id1 id2 v1 v2:Nat}(ty:TypeId)(hT:bM C.P T)(hst:T.get st=some ts)(hk:ts.k=.slice e)(hti:T.get e=some ti)(hsz:ti.size=4)(hby:0<ti.bytes)(hroom:(gQ.length+gT.length)*ti.bytes<=room)(hs:Sim C β σ a w)(hne:id1≠id2)(ho1:σ.h[id1]?=some (.stk e ei v1 gQ none))(ho2:σ.h[id2]?=some (.stk e ei v2 gT none))(hx:eO (β id1) 0 (β id1).len x)(hy:eO (β id2) 0 (β id2).len y):∃ v' w' β',(Builtin.append_ #[st,st] ty #[x,y]).run C.P w=.ok v' w'/\Moves β β'/\Sim C β' ⟨σ.r,(σ.h.set id1 (.stk e ei (v1+1) (gQ++gT) none)).set id2 (.stk e ei (v2+1) [] none)⟩ a w' /\
  (L.own id1 (v1+1)).Rel β' w' (C.N β' ((σ.h.set id1 (.stk e ei (v1+1) (gQ++gT) none)).set id2 (.stk e ei (v2+1) [] none))) [v']/\Keep (C.N β σ.h) w w':=by
 have hu:=(hT _ _ hst).slice hk;obtain⟨i,z,hi,his,hib,hz,sV,hzs,_⟩:=(hT _ _ hti).i;have hlen:gQ.length+gT.length<=(gQ.length+gT.length)*ti.bytes:=Nat.le_mul_of_pos_right _ hby;unfold room at hroom;have Vq:=hs.heap.obj _ _ ho1;have Vr:=hs.heap.obj _ _ ho2;have hap:=λb=>hs.heap.kR id1 id2 _ _ b ho1 ho2
 simp only[Ob.Rel]at Vq Vr;obtain⟨hl1,hx1,hv1,hz1,hn1,b1,yPw,cs1,t1,bs1,hb1,hh1,hc1,hle1,hm1,hs1,hd1,yXw,hf1,ht1,hk1⟩:=Vq;obtain⟨hl2,hx2,hv2,hz2,hn2,b2,xDg,cs2,t2,bs2,hb2,hh2,hc2,hle2,hm2,hs2,hd2,yXx,hf2,ht2,hk2⟩:=Vr;simp only[Vk]at ht1 ht2;subst ht1 ht2;simp only[Kq,Nat.add_zero]at hn1 hn2;rw[List.append_nil,hn1]at hk1;rw[List.append_nil,hn2]at hk2;unfold eO at hx hy;rw[hb1,hn1]at hx;rw[hb2,hn2]at hy;obtain⟨g1,o1,rfl,g1'⟩:=hx;obtain⟨g2,o2,rfl,g2'⟩:=hy;have e1:o1=0:=by
  rcases g1' with h|h
  ·simpa using h
  ·omega
 have e2:o2=0:=by
  rcases g2' with h|h
  ·simpa using h
  ·omega
 subst e1 e2;rw[Nat.sub_zero,Nat.sub_zero];have yId:=hf1.length;have zMt:=hf2.length;have hlt1:id1<σ.h.length:=(bE.1 ho1).1;have hlt2:id2<σ.h.length:=(bE.1 ho2).1;have hblk1:∀ b,(Ob.stk e ei v1 gQ none).blks (β id1) b<->(b1=b\/b∈bs1):=λb=>by rw[oV hs1,hb1];simp
 have hblk2:∀ b,(Ob.stk e ei v2 gT none).blks (β id2) b<->(b2=b\/b∈bs2):=λb=>by rw[oV hs2,hb2];simp
 have zMu:∀ b,(b1=b\/b∈bs1)->(b2=b\/b∈bs2)->False:=λb h1 h2=>hne (hap b ((hblk1 b).2 h1) ((hblk2 b).2 h2))
 have hin1:∀ b,(b1=b\/b∈bs1)->b<w.heap.size:=λb h=>(hs.heap.eY id1 _ b ho1 ((hblk1 b).2 h)).2.1
 have hin2:∀ b,(b2=b\/b∈bs2)->b<w.heap.size:=λb h=>(hs.heap.eY id2 _ b ho2 ((hblk2 b).2 h)).2.1
 have xBv:∀ u∈cs2,u.oneCell'=true:=λu hu=>hf2.one u hu
 have fin:∀ (w':World) (bk cap:Nat) (cur:Array Value),(bk=w.heap.size/\w.heap.size<w'.heap.size\/bk=b1)->Keep (λk _=>k=b1) w w'->Same w w'->w'.heap[bk]?=some (.cells cur e (0,0))->(∀ b,b<w.heap.size->b≠b1->w'.heap[b]?=w.heap[b]?) ->
  cur.toList.take ((gQ.length+gT.length)*4)=cs1++cs2->cur.size=cap*4->gQ.length+gT.length<=cap->cap<=maxLen ->
  ∃ β',Moves β β'/\Sim C β' ⟨σ.r,(σ.h.set id1 (.stk e ei (v1+1) (gQ++gT) none)).set id2 (.stk e ei (v2+1) [] none)⟩ a w' /\
   (L.own id1 (v1+1)).Rel β' w' (C.N β' ((σ.h.set id1 (.stk e ei (v1+1) (gQ++gT) none)).set id2 (.stk e ei (v2+1) [] none))) [.slice (some ⟨bk,0,none⟩) (gQ.length+gT.length) cap]:=by
  intro w' bk cap cur hbk hkeep hsame hheap hold htake hcsz hle hm
  let p1:Pl:=⟨true,false,v1+1,some bk,4,cap,gQ.length+gT.length,(bs1++bs2).map λq=>(q,0)⟩
  let p2:Pl:=⟨true,false,v2+1,some b2,4,(β id2).cap,0,[]⟩
  have hp1:upd (upd β id1 p1) id2 p2 id1=p1:=by rw[aU _ _ hne,upd_same]
  have hp2:upd (upd β id1 p1) id2 p2 id2=p2:=upd_same _ _ _;have hpo:∀ j,j≠id1->j≠id2->upd (upd β id1 p1) id2 p2 j=β j:=λj h1 h2=>by rw[aU _ _ h2,aU _ _ h1]
  have hmv:Moves β (upd (upd β id1 p1) id2 p2):=λj hj=>by
   by_cases h1:j=id1
   ·subst h1;rw[hp1];exact .inr ⟨hx1,rfl,rfl,by rw[hv1];exact Nat.lt_succ_self _⟩
   ·by_cases h2:j=id2
    ·subst h2;rw[hp2];exact .inr ⟨hx2,rfl,rfl,by rw[hv2];exact Nat.lt_succ_self _⟩
    ·exact .inl (hpo j h1 h2)
  have hg1:∀ o,((σ.h.set id1 (.stk e ei (v1+1) (gQ++gT) none)).set id2 (.stk e ei (v2+1) [] none))[id1]?=some o->o=.stk e ei (v1+1) (gQ++gT) none:=λo h=>by
   rw[List.getElem?_set_ne (Ne.symm hne),List.getElem?_set_self hlt1]at h;simpa using h.symm
  have hg2:∀ o,((σ.h.set id1 (.stk e ei (v1+1) (gQ++gT) none)).set id2 (.stk e ei (v2+1) [] none))[id2]?=some o->o=.stk e ei (v2+1) [] none:=λo h=>by
   rw[List.getElem?_set_self (by simpa using hlt2)]at h;simpa using h.symm
  have hB1:∀ b,(Ob.stk e ei (v1+1) (gQ++gT) none).blks p1 b<->(bk=b\/b∈bs1++bs2):=λb=>by rw[oV (p:=p1) rfl];simp[p1]
  have hB2:∀ b,(Ob.stk e ei (v2+1) [] none).blks p2 b<->b2=b:=λb=>by rw[oV (p:=p2) (bs:=[]) rfl];simp[p2]
  have yPx:∀ b,b1=b\/b∈bs1->∃ i0 o0,(i0=id1\/i0=id2)/\σ.h[i0]?=some o0/\o0.wr=true/\∀ j,o0.at (β i0) b j:=λb h=>⟨id1,_,.inl rfl,ho1,rfl,λj=>(Ht hs1).2 (by rw[hb1];exact h.imp (λh=>by rw[h]) id)⟩
  have yXy:∀ b,b2=b\/b∈bs2->∃ i0 o0,(i0=id1\/i0=id2)/\σ.h[i0]?=some o0/\o0.wr=true/\∀ j,o0.at (β i0) b j:=λb h=>⟨id2,_,.inr rfl,ho2,rfl,λj=>(Ht hs2).2 (by rw[hb2];exact h.imp (λh=>by rw[h]) id)⟩
  have back:∀ i o b,(i=id1\/i=id2)->((σ.h.set id1 (.stk e ei (v1+1) (gQ++gT) none)).set id2 (.stk e ei (v2+1) [] none))[i]?=some o->o.blks (upd (upd β id1 p1) id2 p2 i) b ->
   (∃ i0 o0,(i0=id1\/i0=id2)/\σ.h[i0]?=some o0/\o0.wr=true/\∀ j,o0.at (β i0) b j)\/(w.heap.size<=b/\b<w'.heap.size):=λi o b hS ho hb=>by
   rcases hS with rfl|rfl
   ·rw[hg1 o ho,hp1,hB1]at hb;rcases hb with rfl|hb
    ·rcases hbk with ⟨e,h⟩|e
     ·exact .inr ⟨by omega,by omega⟩
     ·exact .inl (yPx _ (.inl e.symm))
    ·rcases List.mem_append.1 hb with hb|hb
     ·exact .inl (yPx _ (.inr hb))
     ·exact .inl (yXy _ (.inr hb))
   ·rw[hg2 o ho,hp2,hB2]at hb;exact .inl (yXy _ (.inl hb))
  have hnk:∀ b,b∈bs1++bs2->b≠bk:=λb hb e=>by
   rcases List.mem_append.1 hb with h|h
   ·rcases hbk with ⟨e',_⟩|e'
    ·have:=hin1 b (.inr h);omega
    ·exact yXw (by rw[<- e',<- e];exact h)
   ·rcases hbk with ⟨e',_⟩|e'
    ·have:=hin2 b (.inr h);omega
    ·exact zMu b (.inl (by omega)) (.inr h)
  have yXz:b2≠bk:=λe=>by
   rcases hbk with ⟨e',_⟩|e'
   ·have:=hin2 b2 (.inl rfl);omega
   ·exact zMu b2 (.inl (by omega)) (.inl rfl)
  have hturn:Turn C (λi=>i=id1\/i=id2) σ.h ((σ.h.set id1 (.stk e ei (v1+1) (gQ++gT) none)).set id2 (.stk e ei (v2+1) [] none)) β (upd (upd β id1 p1) id2 p2) w w':=by
   refine⟨by simp,λi _ hS=>?_,λi h1 h2=>?_,λi hi=>?_,?_,?_,?_,?_,hsame,hmv⟩
   ·have h1:i≠id1:=λh=>hS (.inl h)
    have h2:i≠id2:=λh=>hS (.inr h)
    exact⟨by rw[List.getElem?_set_ne (Ne.symm h2),List.getElem?_set_ne (Ne.symm h1)],hpo i h1 h2⟩
   ·simp at h2;omega
   ·simp at hi;rw[hpo i (by omega) (by omega)];exact hs.heap.dead i hi
   ·intro i o b j hS ho hlt _ hat;rcases back i o b hS ho ⟨j,hat⟩with ⟨i0,o0,k1,k2,k3,k4⟩|h
    ·exact⟨i0,o0,k1,k2,k3,k4 j⟩
    ·omega
   ·intro i o b hS ho hb;exact(back i o b hS ho hb).imp (λ⟨i0,o0,k1,k2,k3,k4⟩=>⟨i0,o0,k1,k2,0,k4 0⟩) id
   ·intro i j o o' b hSi hSj hoi hoj hbi hbj;rcases hSi with rfl|rfl<;>rcases hSj with rfl|rfl
    ·rfl
    ·exfalso;rw[hg1 o hoi,hp1,hB1]at hbi;rw[hg2 o' hoj,hp2,hB2]at hbj;subst hbj;rcases hbi with h|h
     ·exact yXz h.symm
     ·rcases List.mem_append.1 h with h|h
      ·exact zMu b2 (.inr h) (.inl rfl)
      ·exact yXx h
    ·exfalso;rw[hg2 o hoi,hp2,hB2]at hbi;rw[hg1 o' hoj,hp1,hB1]at hbj;subst hbi;rcases hbj with h|h
     ·exact yXz h.symm
     ·rcases List.mem_append.1 h with h|h
      ·exact zMu b2 (.inr h) (.inl rfl)
      ·exact yXx h
    ·rfl
   ·refine hkeep.weaken λk j hkk=>?_
    obtain⟨i0,o0,k1,k2,k3,k4⟩:=yPx k (.inl hkk.symm);exact⟨i0,o0,k1,k2,k4 j,k3⟩
  refine⟨_,hmv,hs.re hturn λi o hS ho=>?_,?_⟩
  ·rcases hS with rfl|rfl
   ·rw[hg1 o ho,hp1];simp only[Ob.Rel];refine⟨rfl,rfl,rfl,rfl,by simp[p1,Kq],bk,cur,cs1++cs2,[],bs1++bs2,rfl,hheap,hcsz,hle,hm,rfl,?_,λh=>hnk bk h rfl,?_,rfl,by rw[List.append_nil];exact htake⟩
    ·exact List.nodup_append.2 ⟨hd1,hd2,λa ha b hb e=>zMu a (.inr ha) (.inr (by rw[e];exact hb))⟩
    ·refine(hf1.mono λb hb=>hold b (hin1 b (.inr hb)) ?_).append (hf2.mono λb hb=>hold b (hin2 b (.inr hb)) ?_)
     ·intro e;exact yXw (by rw[<- e];exact hb)
     ·intro e;exact zMu b (.inl e.symm) (.inr hb)
   ·rw[hg2 o ho,hp2];simp only[Ob.Rel];refine⟨rfl,rfl,rfl,rfl,rfl,b2,xDg,[],[],[],rfl,?_,hc2,Nat.zero_le _,hm2,rfl,List.nodup_nil,List.not_mem_nil,⟨rfl,rfl⟩,rfl,by simp[p2]⟩;rw[hold b2 (hin2 b2 (.inl rfl)) λe=>zMu b2 (.inl e.symm) (.inl rfl)];exact hh2
  ·simp only[L.Rel,hp1];refine⟨rfl,rfl,aP _,_,rfl,rfl,λ_=>?_⟩;unfold eO;simp only[p1];exact⟨by omega,0,rfl,.inl (by simp)⟩
 have toK:∀ {w':World},Keep (λk _=>k=b1) w w'->Keep (C.N β σ.h) w w':=λh=>h.weaken λk _ hk=>.inr ⟨id1,_,ho1,rfl,Ob.mH (by rw[hb1,hk])⟩
 have hcell2:∀ j u,cs2[j]?=some u->w.cell? ((⟨b2,0,none⟩:Addr).add j)=some u:=oQ (by rw[<- hk2];exact(Cells.of_heap hh2).take _);have hcell1:∀ j u,cs1[j]?=some u->w.cell? ((⟨b1,0,none⟩:Addr).add j)=some u:=oQ (by rw[<- hk1];exact(Cells.of_heap hh1).take _);by_cases hr:gQ.length+gT.length<=(β id1).cap
 ·have hmul:(gQ.length+gT.length)*4<=(β id1).cap*4:=Nat.mul_le_mul_right _ hr;have hrun:=run_append_room (P:=C.P) w st ty e i hu hi b1 gQ.length (β id1).cap yPw hh1 ⟨b2,0,none⟩ gT.length (β id2).cap cs2 (by rw[zMt,his,hsz]) hcell2 xBv hr (by rw[zMt,his,hsz];omega);rw[his,hsz]at hrun;obtain⟨β',q1,q2,q3⟩:=fin _ b1 (β id1).cap (yPw.toList.take (gQ.length*4)++cs2++yPw.toList.drop (gQ.length*4+cs2.length)).toArray (.inr rfl) mW Bo (setRow_heap w b1 _ _ e _ hh1) (λb _ hb=>setRow_other w b1 b _ hb)
   (by
    rw[hk1];exact List.take_left' (by rw[List.length_append,yId,zMt];omega))
   (by
    simp only[List.size_toArray,List.length_append,List.length_take,List.length_drop,Array.length_toList,zMt];omega) hr hm1
  exact⟨_,_,β',hrun,q1,q2,q3,toK mW⟩
 ·have xBr:0<gT.length:=by omega
  have hrun:=run_append_grow (P:=C.P) w st ty e i z hu hi hz ⟨b1,0,none⟩ gQ.length (β id1).cap cs1 (by rw[yId,his,hsz]) hcell1 ⟨b2,0,none⟩ gT.length (β id2).cap cs2 (by rw[zMt,his,hsz]) hcell2 (by omega) (by omega)
   (growslice_fits (by omega) (by rw[hib];exact hroom))
  have hge:=grownCap_ge w (gQ.length+gT.length) (β id1).cap e;have hcm:=grownCap_le_maxLen w (gQ.length+gT.length) (β id1).cap e (by simp only[maxLen];omega);have hk0:Keep (λ_ _=>False) w (w.drew.alloc (.cells (cs1.toArray++cs2.toArray++Builtin.zeroCells z.cells (grownCap w (gQ.length+gT.length) (β id1).cap e-(gQ.length+gT.length))) e)):=(zT w).trans (dX w.drew _);have yYa:=hk0.weaken (N':=λk _=>k=b1) λ_ _ h=>h.elim
  obtain⟨β',q1,q2,q3⟩:=fin _ w.heap.size (grownCap w (gQ.length+gT.length) (β id1).cap e) (cs1.toArray++cs2.toArray++Builtin.zeroCells z.cells (grownCap w (gQ.length+gT.length) (β id1).cap e-(gQ.length+gT.length))) (.inl ⟨rfl,by simp⟩) yYa ⟨rfl,rfl,rfl⟩ (heap_alloc_new w.drew _) (λb hb _=>hk0.block b hb λ_ h=>h)
   (by
    simp only[Array.toList_append];exact List.take_left' (by rw[List.length_append,yId,zMt];omega))
   (by
    simp only[Array.size_append,List.size_toArray,size_zeroCells,hzs,yId,zMt,his,hsz];omega) hge hcm
  exact⟨_,_,β',hrun,q1,q2,q3,toK yYa⟩
end
end Go.Dec
