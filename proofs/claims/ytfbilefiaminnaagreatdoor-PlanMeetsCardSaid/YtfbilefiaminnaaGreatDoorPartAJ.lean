/- Part of a proof over this seat: a library of my own, and what it says of this seat. No statement is proved here. -/
import Derived.Test.YtfbilefiaminnaaGreatDoorPartAH
import Derived.Test.YtfbilefiaminnaaGreatDoorPartAI
import Derived.LoopN
import Derived.ScopeJumps
namespace Go.Dec
def zPr (J:Nat->Act->World->Prop) (Q:Exit->Act->World->Prop):Exit->Act->World->Prop | .goto l,a,w=>J l a w | e,a,w=>Q e a w
theorem zSv{P:Program}{a:Act}{w:World}{Q:Exit->Act->World->Prop}{c:Code}(J:Nat->Nat->Act->World->Prop)(first:c.wp P (zPr (λl a w=>∃ m,J m l a w) Q) a w)(pass:∀ m l a w,J m l a w->∃ rest,findLabel c l=some rest/\rest.wp P (zPr (λl' a' w'=>∃ m',m'<m/\J m' l' a' w') Q) a w):(Code.scope c).wp P Q a w:=by
 intro b k cs;have key:∀ m l a w,J m l a w->∃ rest e a' w',findLabel c l=some rest/\Q e a' w'/\Arrives P (lone (b.at a (.code rest::.inScope c::k)) cs w) b k cs e a' w':=by
  intro m;induction m using Nat.strongRecOn with
  |_ m ih =>
   intro l a w hJ;obtain⟨rest,hf,hp⟩:=pass m l a w hJ;obtain⟨e,a₁,w₁,hq,harr⟩:=hp b (.inScope c::k) cs;refine⟨rest,?_⟩;cases e with
   |normal=>exact⟨.normal,a₁,w₁,hf,hq,Steps.trans harr (.one step_inScope)⟩
   |exit id=>exact⟨.exit id,a₁,w₁,hf,hq,λk' hk=>harr k' (by simp[exitTo,hk])⟩
   |goto l' =>
    obtain⟨m',hlt,hJ'⟩:=hq;obtain⟨rest',e₂,a₂,w₂,hf',hq₂,harr₂⟩:=ih m' hlt l' a₁ w₁ hJ';have hg:gotoIn l' (.inScope c::k)=some (.code rest'::.inScope c::k):=by simp[gotoIn,hf']
    exact⟨e₂,a₂,w₂,hf,hq₂,.of_steps (harr _ hg) harr₂⟩
   |ret=>exact⟨_,a₁,w₁,hf,hq,harr⟩
   |panic ch=>exact⟨_,a₁,w₁,hf,hq,harr⟩
   |outgrown=>exact⟨_,a₁,w₁,hf,hq,harr⟩
 obtain⟨e,a₁,w₁,hq,harr⟩:=first b (.inScope c::k) cs
 cases e with
 |normal=>exact⟨.normal,a₁,w₁,hq,.head step_scope (Steps.trans harr (.one step_inScope))⟩
 |exit id=>exact⟨.exit id,a₁,w₁,hq,λk' hk=>.head step_scope (harr k' (by simp[exitTo,hk]))⟩
 |goto l' =>
  obtain⟨m,hJ'⟩:=hq;obtain⟨rest,e₂,a₂,w₂,hf,hq₂,harr₂⟩:=key m l' a₁ w₁ hJ';have hg:gotoIn l' (.inScope c::k)=some (.code rest::.inScope c::k):=by simp[gotoIn,hf]
  exact⟨e₂,a₂,w₂,hq₂,.of_steps (.head step_scope (harr _ hg)) harr₂⟩
 |ret=>exact⟨_,a₁,w₁,hq,.of_steps (.one step_scope) harr⟩
 |panic ch=>exact⟨_,a₁,w₁,hq,.of_steps (.one step_scope) harr⟩
 |outgrown=>exact⟨_,a₁,w₁,hq,.of_steps (.one step_scope) harr⟩
def flows:List Oper->List Nat->List Nat
 |[],ds=>ds
 |o::r,ds=>flows r (match o.op,o.dst with
  |.build _ parts,some e=>if parts.toList.any (λp=>match p.2 with|.tmp t=>ds.any (Nat.beq t)|_=>false)then e::ds else ds
  |_,_=>ds)
def yWd{ρ:Type}(Γ:Orc ρ)(ops:Array Oper)(o:Oper):Bool :=
 match o.op,o.dst with
 |.buildSlice _ _ _,some d=>(λds=>ops.toList.any λp=>match p.op with
  |.call { callee:=.value (.func f),args,.. }=>args.toList.any (λx=>match x with|.tmp e=>ds.any (Nat.beq e)|_=>false)&&(Γ.pure f).isSome
  |.buildSlice _ _ parts=>parts.toList.any (λq=>match q.2 with|.tmp e=>ds.any (Nat.beq e)|_=>false)
  |_=>false) (flows ops.toList [d])
 |_,_=>false
section xDs
variable {ρ:Type}
variable (Γ:Orc ρ)
variable (T:Tab)
def zKe(ops:Array Oper)(σ:St)(o:Oper)(k:K ρ):Option ρ :=
 match yWd Γ ops o with
 |true=>match zHc T σ o with
  |some v=>k .normal ⟨bW σ.r o.dst v,σ.h⟩
  |none=>none
 |false=>Vs Γ T σ o k
def Dt(ops:Array Oper):List Oper->St->K ρ->Option ρ
 |[],σ,k=>k .normal σ
 |o::rest,σ,k =>
  match o.guard with
  |none=>zKe Γ T ops σ o λe σ'=>match e with|.normal=>Dt ops rest σ' k|e=>k e σ'
  |some (j,want)=>
   match Qn ops j with
   |some s =>
    match σ.r.getD s .bY with
    |.one (.val .bool b)=>
     br b
      (match want with
       |true=>zKe Γ T ops ⟨σ.r.set s (.one (.val .bool true)),σ.h⟩ o λe σ'=>match e with|.normal=>Dt ops rest σ' k|e=>k e σ'
       |false=>Dt ops rest ⟨bW (σ.r.set s (.one (.val .bool true))) o.dst (.tup []),σ.h⟩ k)
      (match want with
       |false=>zKe Γ T ops ⟨σ.r.set s (.one (.val .bool false)),σ.h⟩ o λe σ'=>match e with|.normal=>Dt ops rest σ' k|e=>k e σ'
       |true=>Dt ops rest ⟨bW (σ.r.set s (.one (.val .bool false))) o.dst (.tup []),σ.h⟩ k)
    |.tup []=>Dt ops rest ⟨bW σ.r o.dst (.tup []),σ.h⟩ k
    |_=>none
   |none=>none
end xDs
section yYm
variable {ρ:Type}
variable {Γ:Orc ρ}
variable {T:Tab}
variable {C:Ctx}
theorem yEs(hT:bM C.P T)(hΓ:kQ C.P Γ){ops:Array Oper}{β:Nat->Pl}{σ:St}{a:Act}{w:World}{o:Oper}{k:Dec.K ρ}{r:ρ}{next:Act->World->Prop}{Q:Exit->Act->World->Prop}(h:zKe Γ T ops σ o k=some r)(hs:Sim C β σ a w)(hn:∀ σ' β' a' w',Sim C β' σ' a' w'->k .normal σ'=some r->next a' w')(hq:∀ e x σ' β' a' w',Sim C β' σ' a' w'->e≠.normal->La β' w' (C.N β' σ'.h) e x->k e σ'=some r->Q x a' w'):o.wp C.P a w next Q:=by
 unfold zKe at h;split at h
 ·split at h
  ·rename_i v hv;obtain⟨w',v',hrun,hs',hv'⟩:=yFq hT hs hv;unfold Oper.wp;rw[hrun,Oper.upon_value];exact hn _ β _ w' (hs'.put o.dst hv') h
  ·cases h
 ·exact zPi hT hΓ h hs hn hq
theorem Du(hT:bM C.P T)(hΓ:kQ C.P Γ){ops:Array Oper}{r:ρ}{Q:Exit->Act->World->Prop}{k:Dec.K ρ}(hq:∀ e x σ' β' a' w',Sim C β' σ' a' w'->La β' w' (C.N β' σ'.h) e x->k e σ'=some r->Q x a' w'):∀ (l:List Oper) (β:Nat->Pl) (σ:St) (a:Act) (w:World),Dt Γ T ops l σ k=some r->Sim C β σ a w->wpList C.P ops Q l a w
 |[],β,σ,a,w,h,hs=>hq .normal .normal σ β a w hs rfl h
 |o::rest,β,σ,a,w,h,hs=>by
  simp only[Dt]at h;have yQx:∀ σ1:St,σ1=σ->(zKe Γ T ops σ1 o λe σ'=>match e with|.normal=>Dt Γ T ops rest σ' k|e=>k e σ')=some r->o.wp C.P a w (wpList C.P ops Q rest) Q:=by
   intro σ1 e1 h1;subst e1;refine yEs hT hΓ h1 hs (λσ' β' a' w' hs' hk=>Du hT hΓ hq rest β' σ' a' w' hk hs') ?_;intro e x σ' β' a' w' hs' hne hx hk;refine hq e x σ' β' a' w' hs' hx ?_;cases e<;>first|exact absurd rfl hne|exact hk
  split at h
  ·rename_i hg;simp only[wpList];rw[if_pos (by simp[Region.wanted,hg])];exact .inl (yQx σ rfl h)
  ·rename_i j want hg;split at h
   ·rename_i s hsl;split at h
    ·rename_i b hb;have zNa:∃ v,σ.r[s]?=some v/\v=.one (.val .bool b):=by
      rw[List.getD_eq_getElem?_getD]at hb;cases hr:σ.r[s]? with
      |none=>rw[hr]at hb;cases hb
      |some v=>rw[hr]at hb;exact⟨v,rfl,hb⟩
     obtain⟨v,hv,rfl⟩:=zNa;have hval:=hs.reg s _ hv;simp only[V.Rel,L.Rel,Ty.Rel,aJ,and_true]at hval;have hy:=zGv hsl hval;have hwant:Region.wanted o (yielded ops a.tmps)=(b==want):=by
      simp only[Region.wanted,hg,hy];cases b<;>cases want<;>rfl
     have hset:σ.r.set s (.one (.val .bool b))=σ.r:=yFm hb (by simp);simp only[wpList];rcases Vd h with ⟨rfl,h1⟩|⟨rfl,h1⟩
     ·cases want with
      |true =>
       rw[if_pos (by rw[hwant];rfl)];exact .inl (yQx _ (by rw[hset]) h1)
      |false =>
       rw[if_neg (by rw[hwant];simp)];simp only[hset]at h1;exact Du hT hΓ hq rest β _ _ w h1 (hs.put o.dst (v:=.tup []) ⟨[],rfl,trivial⟩)
     ·cases want with
      |false =>
       rw[if_pos (by rw[hwant];rfl)];exact .inl (yQx _ (by rw[hset]) h1)
      |true =>
       rw[if_neg (by rw[hwant];simp)];simp only[hset]at h1;exact Du hT hΓ hq rest β _ _ w h1 (hs.put o.dst (v:=.tup []) ⟨[],rfl,trivial⟩)
    ·rename_i hb;have zNa:σ.r[s]?=some (.tup []):=by
      rw[List.getD_eq_getElem?_getD]at hb;cases hr:σ.r[s]? with
      |none=>rw[hr]at hb;cases hb
      |some v=>rw[hr]at hb;simp at hb;rw[hb]
     have hval:=hs.reg s _ zNa;obtain⟨us,hval,hus⟩:=hval;have hwant:Region.wanted o (yielded ops a.tmps)=false:=by
      simp only[Region.wanted,hg,zGw hsl hval];cases want<;>rfl
     simp only[wpList];rw[if_neg (by rw[hwant];simp)];exact Du hT hΓ hq rest β _ _ w h (hs.put o.dst (v:=.tup []) ⟨[],rfl,trivial⟩)
    ·cases h
   ·cases h
end yYm
inductive An (ρ:Type) where
 |nil
 |mk (l r:An ρ) (c:List Co)
 |loop (sh:Sh) (c0 c1:List Co) (n:Nat) (a:An ρ)
 |scope (l:Nat) (a b:An ρ)
 |sem (f:Jf ρ)
 |co (cs:List Co) (a:An ρ)
 |join (sh:Sh) (cs:List Co) (a:An ρ)
def An.l {ρ:Type}:An ρ->An ρ | .mk l _ _=>l | .scope _ a _=>a | _ => .nil
def An.r {ρ:Type}:An ρ->An ρ | .mk _ r _=>r | _ => .nil
def An.c {ρ:Type}:An ρ->List Co | .mk _ _ c=>c | _=>[]
def fix {ρ α:Type} (B:(α->Option ρ)->α->Option ρ):Nat->α->Option ρ | 0,_=>none | n+1,x=>B (fix B n) x
def enter{ρ:Type}(T:Tab)(sh:Sh)(co:List Co)(σ:St)(g:sh.X->Option ρ):Option ρ :=
 norm T co σ λσ1=>match sh.dec σ1 with
  |some x=>g x
  |none=>none
def An.plain {ρ:Type}:An ρ->Bool | .nil=>true | .mk l r _=>l.plain&&r.plain | .loop _ _ _ _ a=>a.plain | .scope _ a _=>a.plain | .sem _=>false | .co _ a=>a.plain | .join _ _ a=>a.plain
def An.fx {ρ:Type} (k:Nat):An ρ->Bool | .nil=>true | .mk l r c=>l.fx k&&(r.fx k&&dA (Co.fx k) c) | .loop _ c0 c1 _ a=>dA (Co.fx k) c0&&(dA (Co.fx k) c1&&a.fx k) | .scope _ a b=>a.fx k&&b.fx k | .sem _=>true | .co c a=>dA (Co.fx k) c&&a.fx k | .join _ c a=>dA (Co.fx k) c&&a.fx k
section ev
variable {ρ:Type}
variable (Γ:Orc ρ)
variable (T:Tab)
def Fv(an:An ρ)(σ:St)(k:K ρ)(d:Option ρ):Option ρ :=
 match an with
 |.sem f=>f σ k
 |_=>d
def jn {ρ α:Type} (f:α->Option ρ) (x:α):Option ρ:=f x
def evA(f:An ρ->Jf ρ):An ρ->Jf ρ
 |.co cs a=>λσ k=>norm T cs σ λσ'=>evA f a σ' k
 |.join sh cs a=>λσ k=>evA f a σ λe σ'=>match e with
  |.normal=>enter T sh cs σ' (jn λx=>k .normal (sh.enc x))
  |e=>k e σ'
 |an=>f an
def goK(J:Code->Nat->An ρ->Jf ρ)(a:Code)(k:K ρ)(l0:Nat)(sh:Sh)(c:List Co)(l2:Nat)(b2:An ρ)(g:sh.X->Option ρ):K ρ:=λe σ'=>match e with
 |.goto l=>match Nat.beq l l0 with
  |true=>enter T sh c σ' g
  |false=>match Nat.beq l l2 with
   |true=>J a l2 b2 σ' λe σ2=>match e with
    |.goto _=>none
    |e=>k e σ2
   |false=>none
 |e=>k e σ'
def yFr (J : Code -> Nat -> An ρ -> Jf ρ) (a : Code) (f : An ρ -> Jf ρ) : An ρ -> Jf ρ
  | .scope l0 a0 (.loop sh c0 c1 n (.scope l2 b b2)) => fun σ k => evA T f a0 σ (goK T J a k l0 sh c0 l2 b2 (fix (fun g x => J a l0 b (sh.enc x) (goK T J a k l0 sh c1 l2 b2 g)) n))
  | an => fun σ k => Fv an σ k (evA T f an.l σ fun e σ' => match e with
      | .goto l => match an with
        | .scope l0 _ b => match Nat.beq l l0 with
          | true => J a l0 b σ' fun e σ2 => match e with
            | .goto _ => none
            | e => k e σ2
          | false => none
        | _ => none
      | e => k e σ')
def evG(J:Code->Nat->An ρ->Jf ρ):Code->An ρ->St->K ρ->Option ρ
 |.skip,an,σ,k=>Fv an σ k (k .normal σ)
 |.region _ ops d,an,σ,k=>Fv an σ k (match d with
  |false=>Dt Γ T ops ops.toList σ k
  |true=>zSu Γ T ops σ k)
 |.seq a b,an,σ,k=>Fv an σ k (evA T (evG J a) an.l σ λe σ'=>match e with
  |.normal=>norm T an.c σ' λσ2=>evA T (evG J b) an.r σ2 k
  |e=>k e σ')
 |.cond c a b,an,σ,k=>Fv an σ k (match ovl σ c with
  |.one (.val .bool t)=>br t (evA T (evG J a) an.l σ k) (evA T (evG J b) an.r σ k)
  |_=>none)
 |.block id a,an,σ,k=>Fv an σ k (evA T (evG J a) an.l σ λe σ'=>match e with
  |.normal=>norm T an.c σ' (k .normal)
  |.exit i=>match Nat.beq i id with
   |true=>norm T an.c σ' (k .normal)
   |false=>k (.exit i) σ'
  |e=>k e σ')
 |.scope a,an,σ,k=>yFr T J a (evG J a) an σ k
 |.loop b,an,σ,k=>Fv an σ k (match an with
  |.loop sh c0 c1 n a=>enter T sh c0 σ λx=>fix (λg x=>evA T (evG J b) a (sh.enc x) λe σ'=>match e with
   |.normal=>enter T sh c1 σ' g
   |e=>k e σ') n x
  |_=>none)
 |.exit id,an,σ,k=>Fv an σ k (k (.exit id) σ)
 |.goto l,an,σ,k=>Fv an σ k (k (.goto l) σ)
 |.label _,an,σ,k=>Fv an σ k (k .normal σ)
 |.ret,an,σ,k=>Fv an σ k (k .ret σ)
 |_,an,σ,k=>Fv an σ k none
def ev0 (c:Code) (an:An ρ):Jf ρ:=evA T (evG Γ T (fun _ _ _ _ _=>none) c) an
def yJb(a:Code)(l:Nat)(an:An ρ):Jf ρ:=λσ k =>
 match findLabel a l with
 |some rest =>
  match an.plain with
  |true=>ev0 Γ T rest an σ k
  |false=>none
 |none=>none
def ev (c:Code) (an:An ρ):Jf ρ:=evA T (evG Γ T (yJb Γ T) c) an
end ev
def Ue(P:Program)(kf:Nat){ρ:Type}(c:Code)(f:Jf ρ):Prop:=∀ (σ:St) (k:K ρ) (r:ρ),f σ k=some r->∀ (C:Ctx) (β:Nat->Pl) (a:Act) (w:World) (Q:Exit->Act->World->Prop),C.P=P->C.fix.length<=kf->Sim C β σ a w ->
 (∀ e x σ' β' a' w',Sim C β' σ' a' w'->La β' w' (C.N β' σ'.h) e x->k e σ'=some r->Q x a' w')->c.wp P Q a w
def zC {ρ:Type} (f:An ρ->Prop):An ρ->Prop | .co _ a=>zC f a | .join _ _ a=>zC f a | an=>f an
def AnG (P:Program) (kf:Nat) {ρ:Type}:Code->An ρ->Prop | c,.sem f=>Ue P kf c f | .seq a b,an=>zC (AnG P kf a) an.l ∧ zC (AnG P kf b) an.r | .cond _ a b,an=>zC (AnG P kf a) an.l ∧ zC (AnG P kf b) an.r | .block _ a,an=>zC (AnG P kf a) an.l | .scope a,an=>zC (AnG P kf a) an.l | .loop b,.loop _ _ _ _ a=>zC (AnG P kf b) a | _,_=>True
def zNb (P:Program) (kf:Nat) {ρ:Type} (c:Code) (an:An ρ):Prop:=zC (AnG P kf c) an
section sound
variable {ρ:Type}
variable {Γ:Orc ρ}
variable {T:Tab}
variable {P:Program}
theorem lI{an:An ρ}{σ:St}{k:K ρ}{d:Option ρ}{r:ρ}(h:Fv an σ k d=some r):(∃ f,an=.sem f/\f σ k=some r)\/((∀ f,an≠.sem f)/\d=some r):=by
 cases an with
 |sem f=>exact .inl ⟨f,rfl,h⟩
 |nil=>exact .inr ⟨by simp,h⟩
 |mk l r c=>exact .inr ⟨by simp,h⟩
 |loop sh c0 c1 n a=>exact .inr ⟨by simp,h⟩
 |scope l a b=>exact .inr ⟨by simp,h⟩
 |co c a=>exact .inr ⟨by simp,h⟩
 |join sh c a=>exact .inr ⟨by simp,h⟩
theorem AnG.sem{kf:Nat}{c:Code}{f:Jf ρ}(h:AnG P kf c (.sem f)):Ue P kf c f:=by
 cases c<;>exact h
theorem yMz{kf:Nat}(hT:bM P T)(hΓ:kQ P Γ)(id:Nat)(ops:Array Oper):Ue P kf (.region id ops false) (λσ k=>Dt Γ T ops ops.toList σ k):=by
 intro σ k r h C β a w Q hP _ hs hq;subst hP;refine wp_region ?_;rw[show List.range ops.size=List.range' 0 ops.toList.length by simp[List.range_eq_range'],wpOps_eq_wpList ops.toList 0 (by simp)];exact Du hT hΓ hq ops.toList β σ a w h hs
theorem Dv{C:Ctx}{β:Nat->Pl}{σ:St}{a:Act}{w:World}{sh:Sh}{co:List Co}{g:sh.X->Option ρ}{r:ρ}(hT:bM C.P T){kf:Nat}(hkf:C.fix.length<=kf)(hfx:dA (Co.fx kf) co=true)(h:enter T sh co σ g=some r)(hs:Sim C β σ a w):∃ (β':Nat->Pl) (_σ':St) (x:sh.X),Sim C β' (sh.enc x) a w/\g x=some r:=by
 obtain⟨β2,σ2,hs2,hk2⟩:=Nw hT hkf hfx h hs;split at hk2
 ·rename_i x hx;exact⟨β2,σ2,x,zKa hx hs2,hk2⟩
 ·cases hk2
theorem nR(hT:bM P T){kf:Nat}{c:Code}{f:An ρ->Jf ρ}{Q:An ρ->Prop}(hf:∀ an,Q an->an.fx kf=true->Ue P kf c (f an)):∀ an,zC Q an->an.fx kf=true->Ue P kf c (evA T f an)
 |.co cs a,ha,hx=>by
  simp only[An.fx,aD]at hx;intro σ k r h C β ac w R hP hkf hs hq;obtain⟨β',σ',hs',hk⟩:=Nw (hP ▸ hT:bM C.P T) hkf hx.1 h hs;exact nR hT hf a ha hx.2 σ' k r hk C β' ac w R hP hkf hs' hq
 |.join sh cs a,ha,hx=>by
  simp only[An.fx,aD]at hx;intro σ k r h C β ac w R hP hkf hs hq;refine nR hT hf a ha hx.2 σ _ r h C β ac w R hP hkf hs ?_;intro e x σ' β' a' w' hs' hxr hk;cases e with
  |normal =>
   obtain⟨β2,σ2,x2,hs2,hk2⟩:=Dv (hP ▸ hT:bM C.P T) hkf hx.1 hk hs';exact hq .normal x (sh.enc x2) β2 a' w' hs2 hxr hk2
  |exit i=>exact hq (.exit i) x σ' β' a' w' hs' hxr hk
  |goto l=>exact hq (.goto l) x σ' β' a' w' hs' hxr hk
  |ret=>exact hq .ret x σ' β' a' w' hs' hxr hk
  |pan t v=>exact hq (.pan t v) x σ' β' a' w' hs' hxr hk
 |.nil,ha,hx=>hf _ ha hx
 |.mk ..,ha,hx=>hf _ ha hx
 |.loop ..,ha,hx=>hf _ ha hx
 |.scope ..,ha,hx=>hf _ ha hx
 |.sem ..,ha,hx=>hf _ ha hx
theorem An.zZy{kf:Nat}{an:An ρ}(h:an.fx kf=true):an.l.fx kf=true:=by
 cases an<;>simp_all[An.fx,An.l]
theorem An.yYn{kf:Nat}{an:An ρ}(h:an.fx kf=true):an.r.fx kf=true:=by
 cases an<;>simp_all[An.fx,An.r]
theorem An.yQy{kf:Nat}{an:An ρ}(h:an.fx kf=true):dA (Co.fx kf) an.c=true:=by
 cases an<;>simp_all[An.fx,An.c,dA]
theorem sF{kf:Nat}{J:Code->Nat->An ρ->Jf ρ}(hT:bM P T)(hΓ:kQ P Γ)(hm:P.follows .mixedOrders=true)(hJ:∀ a l an,(∀ rest,findLabel a l=some rest->an.fx kf=true->Ue P kf rest (J a l an))/\(findLabel a l=none->∀ σ k r,J a l an σ k≠some r)):∀ (c:Code) (an:An ρ),AnG P kf c an->an.fx kf=true->Ue P kf c (evG Γ T J c an)
 |.skip,an,ha,hfx=>by
  intro σ k r h C β a w Q hP hkf hs hq;rcases lI h with ⟨f,rfl,hf⟩|⟨_,hd⟩
  ·exact(AnG.sem ha) σ k r hf C β a w Q hP hkf hs hq
  ·exact wp_skip (hq .normal .normal σ β a w hs rfl hd)
 |.region id ops d,an,ha,hfx=>by
  intro σ k r h C β a w Q hP hkf hs hq;rcases lI h with ⟨f,rfl,hf⟩|⟨_,hd⟩
  ·exact(AnG.sem ha) σ k r hf C β a w Q hP hkf hs hq
  ·cases d with
   |false=>exact yMz hT hΓ id ops σ k r hd C β a w Q hP hkf hs hq
   |true =>
    subst hP;exact yQv hT hΓ hm hq hd hs
 |.seq x y,an,ha,hfx=>by
  intro σ k r h C β a w Q hP hkf hs hq;rcases lI h with ⟨f,rfl,hf⟩|⟨hne,hd⟩
  ·exact(AnG.sem ha) σ k r hf C β a w Q hP hkf hs hq
  ·have ha':zC (AnG P kf x) an.l/\zC (AnG P kf y) an.r:=by cases an<;>first|exact absurd rfl (hne _)|exact ha
   refine wp_seq (nR hT (sF hT hΓ hm hJ x) an.l ha'.1 (An.zZy hfx) σ _ r hd C β a w _ hP hkf hs ?_);intro e ex σ' β' a' w' hs' hx hk;cases e with
   |normal =>
    obtain rfl:=hx;obtain⟨β2,σ2,hs2,hk2⟩:=Nw (hP ▸ hT:bM C.P T) hkf (An.yQy hfx) hk hs';exact nR hT (sF hT hΓ hm hJ y) an.r ha'.2 (An.yYn hfx) σ2 k r hk2 C β2 a' w' Q hP hkf hs2 hq
   |exit i=>obtain rfl:=hx;exact hq (.exit i) _ σ' β' a' w' hs' rfl hk
   |goto l=>obtain rfl:=hx;exact hq (.goto l) _ σ' β' a' w' hs' rfl hk
   |ret=>obtain rfl:=hx;exact hq .ret _ σ' β' a' w' hs' rfl hk
   |pan t v=>have hx':=hx;obtain⟨z,rfl,_⟩:=hx;exact hq (.pan t v) _ σ' β' a' w' hs' hx' hk
 |.cond c x y,an,ha,hfx=>by
  intro σ k r h C β a w Q hP hkf hs hq;rcases lI h with ⟨f,rfl,hf⟩|⟨hne,hd⟩
  ·exact(AnG.sem ha) σ k r hf C β a w Q hP hkf hs hq
  ·have ha':zC (AnG P kf x) an.l/\zC (AnG P kf y) an.r:=by cases an<;>first|exact absurd rfl (hne _)|exact ha
   split at hd
   ·rename_i t ht;have hc:=aY hs c;rw[ht]at hc;simp only[V.Rel,L.Rel,Ty.Rel,aJ,and_true]at hc;rcases Vd hd with ⟨rfl,h1⟩|⟨rfl,h1⟩
    ·exact wp_cond_true hc (nR hT (sF hT hΓ hm hJ x) an.l ha'.1 (An.zZy hfx) σ k r h1 C β a w Q hP hkf hs hq)
    ·exact wp_cond_false hc (nR hT (sF hT hΓ hm hJ y) an.r ha'.2 (An.yYn hfx) σ k r h1 C β a w Q hP hkf hs hq)
   ·cases hd
 |.block id x,an,ha,hfx=>by
  intro σ k r h C β a w Q hP hkf hs hq;rcases lI h with ⟨f,rfl,hf⟩|⟨hne,hd⟩
  ·exact(AnG.sem ha) σ k r hf C β a w Q hP hkf hs hq
  ·have ha':zC (AnG P kf x) an.l:=by cases an<;>first|exact absurd rfl (hne _)|exact ha
   refine wp_block (nR hT (sF hT hΓ hm hJ x) an.l ha' (An.zZy hfx) σ _ r hd C β a w _ hP hkf hs ?_);intro e ex σ' β' a' w' hs' hx hk;cases e with
   |normal =>
    obtain rfl:=hx;obtain⟨β2,σ2,hs2,hk2⟩:=Nw (hP ▸ hT:bM C.P T) hkf (An.yQy hfx) hk hs';exact hq .normal .normal σ2 β2 a' w' hs2 rfl hk2
   |exit i =>
    obtain rfl:=hx;simp only at hk;split at hk
    ·rename_i hb;have hb:=aK hb;subst hb;obtain⟨β2,σ2,hs2,hk2⟩:=Nw (hP ▸ hT:bM C.P T) hkf (An.yQy hfx) hk hs';simp only[Exit.inBlock,if_true];exact hq .normal .normal σ2 β2 a' w' hs2 rfl hk2
    ·rename_i hb;have hne:i≠id:=λe=>by rw[e,Nat.beq_refl]at hb;cases hb
     simp only[Exit.inBlock,hne,if_false];exact hq (.exit i) _ σ' β' a' w' hs' rfl hk
   |goto l=>obtain rfl:=hx;exact hq (.goto l) _ σ' β' a' w' hs' rfl hk
   |ret=>obtain rfl:=hx;exact hq .ret _ σ' β' a' w' hs' rfl hk
   |pan t v=>have hx':=hx;obtain⟨z,rfl,_⟩:=hx;exact hq (.pan t v) _ σ' β' a' w' hs' hx' hk
 |.scope x,an,ha,hfx=>by
  intro σ k r h C β a w Q hP hkf hs hq;simp only[evG]at h;unfold yFr at h;split at h
  ·rename_i l0 a0 sh c0 c1 n l2 b b2;have hT':bM C.P T:=hP ▸ hT;have hx:=hfx;simp only[An.fx,aD]at hx;obtain⟨hxa,xDt,xDu,hxb,xDv⟩:=hx;have ha':zC (AnG P kf x) a0:=ha;have go:∀ {m:Nat}{co:List Co}{g:sh.X->Option ρ}{e:Ex}{ex:Exit}{σ':St}{β':Nat->Pl}{a':Act}{w':World},dA (Co.fx kf) co=true ->
    Sim C β' σ' a' w'->La β' w' (C.N β' σ'.h) e ex->goK T J x k l0 sh co l2 b2 g e σ'=some r->(∀ y,g y=some r->fix (λg y=>J x l0 b (sh.enc y) (goK T J x k l0 sh c1 l2 b2 g)) m y=some r) ->
    zPr (λl a w=>∃ m',m'<m+2/\((l=l0/\0<m'/\∃ β y,Sim C β (sh.enc y) a w/\fix (λg y=>J x l0 b (sh.enc y) (goK T J x k l0 sh c1 l2 b2 g)) (m'-1) y=some r) \/
     (l=l2/\∃ β σ,Sim C β σ a w/\(J x l2 b2 σ λe σ2=>match e with|.goto _=>none|e=>k e σ2)=some r))) Q ex a' w':=by
    intro m co g e ex σ' β' a' w' hco hs' hx hk hg;cases e with
    |normal=>obtain rfl:=hx;exact hq .normal _ σ' β' a' w' hs' rfl hk
    |exit i=>obtain rfl:=hx;exact hq (.exit i) _ σ' β' a' w' hs' rfl hk
    |goto l =>
     obtain rfl:=hx;simp only[goK]at hk;split at hk
     ·rename_i hb;obtain⟨β2,σ2,y,hs2,hk2⟩:=Dv hT' hkf hco hk hs';exact⟨m+1,by omega,.inl ⟨aK hb,by omega,β2,y,hs2,hg y hk2⟩⟩
     ·split at hk
      ·rename_i hb;exact⟨0,by omega,.inr ⟨aK hb,β',σ',hs',hk⟩⟩
      ·cases hk
    |ret=>obtain rfl:=hx;exact hq .ret _ σ' β' a' w' hs' rfl hk
    |pan t v=>have hx':=hx;obtain⟨z,rfl,_⟩:=hx;exact hq (.pan t v) _ σ' β' a' w' hs' hx' hk
   have weak:∀ {m:Nat}{ex:Exit}{a':Act}{w':World}{J1:Nat->Nat->Act->World->Prop},zPr (λl a w=>∃ m',m'<m/\J1 m' l a w) Q ex a' w'->zPr (λl a w=>∃ m',J1 m' l a w) Q ex a' w':=by
    intro m ex a' w' J1 h;cases ex with
    |goto l=>obtain⟨m',_,h⟩:=h;exact⟨m',h⟩
    |normal=>exact h
    |exit i=>exact h
    |ret=>exact h
    |panic c=>exact h
    |outgrown=>exact h
   refine zSv (λm' l a w=>(l=l0/\0<m'/\∃ β y,Sim C β (sh.enc y) a w/\fix (λg y=>J x l0 b (sh.enc y) (goK T J x k l0 sh c1 l2 b2 g)) (m'-1) y=some r) \/
    (l=l2/\∃ β σ,Sim C β σ a w/\(J x l2 b2 σ λe σ2=>match e with|.goto _=>none|e=>k e σ2)=some r)) ?_ ?_
   ·refine nR hT (sF hT hΓ hm hJ x) a0 ha' hxa σ _ r h C β a w _ hP hkf hs ?_;intro e ex σ' β' a' w' hs' hx hk;exact weak (go xDt hs' hx hk (λy hy=>hy))
   ·rintro m l a1 w1 (⟨rfl,hm0,β1,y,hs1,h1⟩|⟨rfl,β1,σ1,hs1,h1⟩)
    ·obtain⟨m,rfl⟩:∃ m2,m=m2+1:=⟨m-1,by omega⟩;simp only[Nat.add_sub_cancel]at h1;cases m with
     |zero=>cases h1
     |succ m =>
      simp only[fix]at h1;cases hfl:findLabel x l with
      |none=>exact absurd h1 ((hJ x l b).2 hfl _ _ _)
      |some rest =>
       refine⟨rest,rfl,?_⟩;refine(hJ x l b).1 rest hfl hxb _ _ r h1 C β1 a1 w1 _ hP hkf hs1 ?_;intro e ex σ' β' a' w' hs' hx hk;exact go xDu hs' hx hk (λy hy=>hy)
    ·cases hfl:findLabel x l with
     |none=>exact absurd h1 ((hJ x l b2).2 hfl _ _ _)
     |some rest =>
      refine⟨rest,rfl,?_⟩;refine(hJ x l b2).1 rest hfl xDv σ1 _ r h1 C β1 a1 w1 _ hP hkf hs1 ?_;intro e ex σ' β' a' w' hs' hx hk;cases e with
      |normal=>obtain rfl:=hx;exact hq .normal _ σ' β' a' w' hs' rfl hk
      |exit i=>obtain rfl:=hx;exact hq (.exit i) _ σ' β' a' w' hs' rfl hk
      |goto l=>cases hk
      |ret=>obtain rfl:=hx;exact hq .ret _ σ' β' a' w' hs' rfl hk
      |pan t v=>have hx':=hx;obtain⟨z,rfl,_⟩:=hx;exact hq (.pan t v) _ σ' β' a' w' hs' hx' hk
  rcases lI h with ⟨f,rfl,hf⟩|⟨hne,hd⟩
  ·exact(AnG.sem ha) σ k r hf C β a w Q hP hkf hs hq
  ·have ha':zC (AnG P kf x) an.l:=by cases an<;>first|exact absurd rfl (hne _)|exact ha
   by_cases hsc:∃ l0 x' b rest,an=.scope l0 x' b/\findLabel x l0=some rest
   ·obtain⟨l0,x',b,rest,rfl,hfl⟩:=hsc;refine wp_scope_jumps l0 (λa' w'=>∃ β' σ',Sim C β' σ' a' w'/\(J x l0 b σ' λe σ2=>match e with|.goto _=>none|e=>k e σ2)=some r) (λ_ _=>0) hfl ?_ ?_
    ·refine nR hT (sF hT hΓ hm hJ x) _ ha' (An.zZy hfx) σ _ r hd C β a w _ hP hkf hs ?_;intro e ex σ' β' a' w' hs' hx hk;cases e with
     |normal=>obtain rfl:=hx;exact hq .normal _ σ' β' a' w' hs' rfl hk
     |exit i=>obtain rfl:=hx;exact hq (.exit i) _ σ' β' a' w' hs' rfl hk
     |goto l =>
      obtain rfl:=hx;simp only at hk;split at hk
      ·rename_i hb;exact⟨aK hb,β',σ',hs',hk⟩
      ·cases hk
     |ret=>obtain rfl:=hx;exact hq .ret _ σ' β' a' w' hs' rfl hk
     |pan t v=>have hx':=hx;obtain⟨z,rfl,_⟩:=hx;exact hq (.pan t v) _ σ' β' a' w' hs' hx' hk
    ·rintro a1 w1 ⟨β1,σ1,hs1,h1⟩;refine(hJ x l0 b).1 rest hfl (by simp only[An.fx,aD]at hfx;exact hfx.2) σ1 _ r h1 C β1 a1 w1 _ hP hkf hs1 ?_;intro e ex σ' β' a' w' hs' hx hk;cases e with
     |normal=>obtain rfl:=hx;exact hq .normal _ σ' β' a' w' hs' rfl hk
     |exit i=>obtain rfl:=hx;exact hq (.exit i) _ σ' β' a' w' hs' rfl hk
     |goto l=>cases hk
     |ret=>obtain rfl:=hx;exact hq .ret _ σ' β' a' w' hs' rfl hk
     |pan t v=>have hx':=hx;obtain⟨z,rfl,_⟩:=hx;exact hq (.pan t v) _ σ' β' a' w' hs' hx' hk
   ·refine wp_scope_straight (nR hT (sF hT hΓ hm hJ x) an.l ha' (An.zZy hfx) σ _ r hd C β a w _ hP hkf hs ?_);intro e ex σ' β' a' w' hs' hx hk;cases e with
    |normal=>obtain rfl:=hx;exact hq .normal _ σ' β' a' w' hs' rfl hk
    |exit i=>obtain rfl:=hx;exact hq (.exit i) _ σ' β' a' w' hs' rfl hk
    |goto l =>
     exfalso;simp only at hk;split at hk
     ·rename_i l0 x' b _;split at hk
      ·cases hfl:findLabel x l0 with
       |none=>exact(hJ x l0 b).2 hfl _ _ _ hk
       |some rest=>exact hsc ⟨l0,x',b,rest,rfl,hfl⟩
      ·cases hk
     ·cases hk
    |ret=>obtain rfl:=hx;exact hq .ret _ σ' β' a' w' hs' rfl hk
    |pan t v=>have hx':=hx;obtain⟨z,rfl,_⟩:=hx;exact hq (.pan t v) _ σ' β' a' w' hs' hx' hk
 |.loop x,an,ha,hfx=>by
  intro σ k r h C β a w Q hP hkf hs hq;rcases lI h with ⟨f,rfl,hf⟩|⟨hne,hd⟩
  ·exact(AnG.sem ha) σ k r hf C β a w Q hP hkf hs hq
  ·cases an with
   |loop sh c0 c1 n an' =>
    have ha':zC (AnG P kf x) an':=ha;simp only[An.fx,aD]at hfx;have hT':bM C.P T:=hP ▸ hT;refine wp_loop_rounds n ?_;obtain⟨β1,σ1,x1,hs1,h1⟩:=Dv hT' hkf hfx.1 hd hs;clear hd hs h hne ha;revert x1 β1 a w;induction n with
    |zero=>intro a w β1 x1 _ h;cases h
    |succ n ih =>
     intro a w β1 x1 hs1 h1;rw[rounds_succ];refine nR hT (sF hT hΓ hm hJ x) an' ha' hfx.2.2 _ _ r h1 C β1 a w _ hP hkf hs1 ?_;intro e ex σ' β' a' w' hs' hx hk;cases e with
     |normal =>
      obtain rfl:=hx;obtain⟨β2,σ2,x2,hs2,hk2⟩:=Dv hT' hkf hfx.2.1 hk hs';exact ih a' w' β2 x2 hs2 hk2
     |exit i=>obtain rfl:=hx;exact hq (.exit i) _ σ' β' a' w' hs' rfl hk
     |goto l=>obtain rfl:=hx;exact hq (.goto l) _ σ' β' a' w' hs' rfl hk
     |ret=>obtain rfl:=hx;exact hq .ret _ σ' β' a' w' hs' rfl hk
     |pan t v=>have hx':=hx;obtain⟨z,rfl,_⟩:=hx;exact hq (.pan t v) _ σ' β' a' w' hs' hx' hk
   |_=>cases hd
 |.exit id,an,ha,hfx=>by
  intro σ k r h C β a w Q hP hkf hs hq;rcases lI h with ⟨f,rfl,hf⟩|⟨_,hd⟩
  ·exact(AnG.sem ha) σ k r hf C β a w Q hP hkf hs hq
  ·exact wp_exit (hq (.exit id) _ σ β a w hs rfl hd)
 |.goto l,an,ha,hfx=>by
  intro σ k r h C β a w Q hP hkf hs hq;rcases lI h with ⟨f,rfl,hf⟩|⟨_,hd⟩
  ·exact(AnG.sem ha) σ k r hf C β a w Q hP hkf hs hq
  ·exact wp_goto (hq (.goto l) _ σ β a w hs rfl hd)
 |.label l,an,ha,hfx=>by
  intro σ k r h C β a w Q hP hkf hs hq;rcases lI h with ⟨f,rfl,hf⟩|⟨_,hd⟩
  ·exact(AnG.sem ha) σ k r hf C β a w Q hP hkf hs hq
  ·exact wp_label (hq .normal _ σ β a w hs rfl hd)
 |.ret,an,ha,hfx=>by
  intro σ k r h C β a w Q hP hkf hs hq;rcases lI h with ⟨f,rfl,hf⟩|⟨_,hd⟩
  ·exact(AnG.sem ha) σ k r hf C β a w Q hP hkf hs hq
  ·exact wp_ret (hq .ret _ σ β a w hs rfl hd)
 |.rangeFunc g ps x y,an,ha,hfx=>by
  intro σ k r h C β a w Q hP hkf hs hq;rcases lI h with ⟨f,rfl,hf⟩|⟨_,hd⟩
  ·exact(AnG.sem ha) σ k r hf C β a w Q hP hkf hs hq
  ·cases hd
 |.refuse why,an,ha,hfx=>by
  intro σ k r h C β a w Q hP hkf hs hq;rcases lI h with ⟨f,rfl,hf⟩|⟨_,hd⟩
  ·exact(AnG.sem ha) σ k r hf C β a w Q hP hkf hs hq
  ·cases hd
theorem An.zKf{ρ:Type}{an:An ρ}(h:an.plain=true):an.l.plain=true:=by
 cases an<;>simp_all[An.plain,An.l]
theorem An.yFs{ρ:Type}{an:An ρ}(h:an.plain=true):an.r.plain=true:=by
 cases an<;>simp_all[An.plain,An.r]
theorem Bq{Q:An ρ->Prop}(h:∀ an:An ρ,an.plain=true->Q an):∀ an:An ρ,an.plain=true->zC Q an
 |.co _ a,hp=>Bq h a hp
 |.join _ _ a,hp=>Bq h a hp
 |.nil,hp=>h _ hp
 |.mk ..,hp=>h _ hp
 |.loop ..,hp=>h _ hp
 |.scope ..,hp=>h _ hp
 |.sem _,hp=>by cases hp
theorem Jy{kf:Nat}:∀ (c:Code) (an:An ρ),an.plain=true->AnG P kf c an
 |.seq a b,an,h=>by
  have:=And.intro (Bq (Jy (kf:=kf) a) an.l (An.zKf h)) (Bq (Jy (kf:=kf) b) an.r (An.yFs h));cases an<;>first|(cases h;done)|exact this
 |.cond _ a b,an,h=>by
  have:=And.intro (Bq (Jy (kf:=kf) a) an.l (An.zKf h)) (Bq (Jy (kf:=kf) b) an.r (An.yFs h));cases an<;>first|(cases h;done)|exact this
 |.block _ a,an,h=>by
  have:=Bq (Jy (kf:=kf) a) an.l (An.zKf h);cases an<;>first|(cases h;done)|exact this
 |.scope a,an,h=>by
  have:=Bq (Jy (kf:=kf) a) an.l (An.zKf h);cases an<;>first|(cases h;done)|exact this
 |.loop b,an,h=>by
  cases an with
  |loop sh c0 c1 n a=>exact Bq (Jy (kf:=kf) b) a h
  |sem f=>cases h
  |_=>trivial
 |.skip,an,h=>by cases an<;>first|(cases h;done)|trivial
 |.region ..,an,h=>by cases an<;>first|(cases h;done)|trivial
 |.exit _,an,h=>by cases an<;>first|(cases h;done)|trivial
 |.goto _,an,h=>by cases an<;>first|(cases h;done)|trivial
 |.label _,an,h=>by cases an<;>first|(cases h;done)|trivial
 |.ret,an,h=>by cases an<;>first|(cases h;done)|trivial
 |.rangeFunc ..,an,h=>by cases an<;>first|(cases h;done)|trivial
 |.refuse _,an,h=>by cases an<;>first|(cases h;done)|trivial
theorem aF{kf:Nat}(c:Code)(an:An ρ)(h:an.plain=true):zNb P kf c an:=Bq (Jy c) an h
theorem yNa{kf:Nat}(hT:bM P T)(hΓ:kQ P Γ)(hm:P.follows .mixedOrders=true)(c:Code)(an:An ρ)(ha:zNb P kf c an)(hfx:an.fx kf=true):Ue P kf c (ev0 Γ T c an):=
 nR hT (sF hT hΓ hm (λ_ _ _=>⟨λ_ _ _ σ k r h=>(by cases h),λ_ σ k r h=>(by cases h)⟩) c) an ha hfx
theorem zDu{kf:Nat}(hT:bM P T)(hΓ:kQ P Γ)(hm:P.follows .mixedOrders=true)(c:Code)(an:An ρ)(ha:zNb P kf c an)(hfx:an.fx kf=true):Ue P kf c (ev Γ T c an):=by
 refine nR hT (sF hT hΓ hm (λa l an'=>⟨λrest hf hx σ k r h=>?_,λhf σ k r h=>?_⟩) c) an ha hfx
 ·unfold yJb at h;rw[hf]at h;simp only at h;split at h
  ·rename_i hp;exact yNa hT hΓ hm rest an' (aF rest an' hp) hx σ k r h
  ·cases h
 ·unfold yJb at h;rw[hf]at h;cases h
def L.deep(h:List Ob):L->Option (Bool × L)
 |.val t x=>some (true,.val t x)
 |.lF=>some (true,.lF)
 |.bJ=>some (true,.bJ)
 |.qY t x off=>some (true,.qY t x off)
 |.own id ver =>
  match h[id]? with
  |some (.arr _ t v rows _)=>some (Nat.beq v ver,.val (.slice t) rows)
  |_=>none
 |.sl id ver off len =>
  match h[id]? with
  |some (.arr _ t v rows _)=>some (Nat.beq v ver&&Nat.ble (off+len) rows.length,.val (.slice t) ((rows.drop off).take len))
  |_=>none
 |.clo f []=>some (true,.clo f [])
 |_=>none
def zDv(h:List Ob):List L->Option (Bool × List L)
 |[]=>some (true,[])
 |l::ls =>
  match l.deep h,zDv h ls with
  |some (c,x),some (d,r)=>some (c&&d,x::r)
  |_,_=>none
def V.deep(h:List Ob):V->Option (Bool × V)
 |.one l=>match l.deep h with
  |some (c,x)=>some (c,.one x)
  |none=>none
 |.agg ls=>match zDv h ls with
  |some (c,x)=>some (c,.agg x)
  |none=>none
 |_=>none
def yJc(T:Tab)(σ:St):ResultVar->Option (Bool × Sum L (List L))
 |.tmp t =>
  match (σ.r.getD t .bY).deep σ.h with
  |some (c,.one l)=>some (c,.inl l)
  |some (c,.agg ls)=>some (c,.inr ls)
  |_=>none
 |.cell t ty =>
  match σ.r.getD t .bY with
  |.one l =>
   match loadAt T σ.h ty l with
   |some (c,v)=>
    match v.deep σ.h with
    |some (d,.one l)=>some (c&&d,.inl l)
    |some (d,.agg ls)=>some (c&&d,.inr ls)
    |_=>none
   |none=>none
  |_=>none
def zKg(T:Tab)(σ:St):List ResultVar->Option (Bool × List (Sum L (List L)))
 |[]=>some (true,[])
 |x::r =>
  match yJc T σ x,zKg T σ r with
  |some (c,l),some (d,ls)=>some (c&&d,l::ls)
  |_,_=>none
def yQz:List (Sum L (List L))->V | [.inl l] => .one l | [.inr ls] => .agg ls | vs => .tup vs
end sound
end Go.Dec
namespace Go.Dec
section
variable {T:Tab}
variable {C:Ctx}
variable {β β':Nat->Pl}
variable {w:World}
theorem L.yWe{N N':Nat->Nat->Prop}(hN:∀ b j,b<w.heap.size->N' b j->N b j):∀ {l:L}{cs:List Value},l.isD=true->l.Rel β w N cs->l.Rel β' w N' cs
 |.val t x,cs,_,h=>by simp only[L.Rel]at *;exact h.mono (Keep.refl _ w) hN
 |.lF,cs,_,h=>by simp only[L.Rel]at *;exact h
 |.bJ,cs,_,h=>by simp only[L.Rel]at *;exact h
 |.qY t x off,cs,_,h=>by simp only[L.Rel]at *;obtain⟨c,hc,hr⟩:=h;exact⟨c,hc,hr.mono (Keep.refl _ w) hN⟩
 |.clo f [],cs,_,h=>by simp only[L.Rel,L.eD]at *;exact h
 |.clo f (_::_),_,hd,_=>by simp[L.isD]at hd
 |.ptr ..,_,hd,_=>by simp[L.isD]at hd
 |.rY ..,_,hd,_=>by simp[L.isD]at hd
 |.iZ ..,_,hd,_=>by simp[L.isD]at hd
 |.sl ..,_,hd,_=>by simp[L.isD]at hd
 |.own ..,_,hd,_=>by simp[L.isD]at hd
 |.bad _,_,hd,_=>by simp[L.isD]at hd
 |.fC ..,_,hd,_=>by simp[L.isD]at hd
theorem zZz{h:List Ob}{e:TypeId}{t:Ty}{ver id off len:Nat}{rows:List t.den}{wr:Bool}{c:Value}{N':Nat->Nat->Prop}(hh:fB C β h w)(ho:h[id]?=some (.arr e t ver rows wr))(hsl:eO (β id) off len c)(hle:off+len<=rows.length)(hN:∀ b j,b<w.heap.size->N' b j->C.N0 b j):(Ty.slice t).Rel w N' ((rows.drop off).take len) [c]:=by
 have hob:=hh.obj _ _ ho;simp only[Ob.Rel]at hob;obtain⟨_,_,hpv,hpz,hpos,hpl,hob⟩:=hob;simp only[Ty.Rel];refine⟨c,rfl,?_⟩;unfold eO at hsl;rcases hob with ⟨hnb,hr0,_⟩|⟨b,cur,css,hb,hheap,hall,htake,hcap,hrc,hm⟩
 ·rw[hnb]at hsl;subst hr0;exact .inl ⟨hsl.1,by simp⟩
 ·rw[hb]at hsl;obtain⟨h1,o,rfl,h3⟩:=hsl;obtain⟨hf1,hf2,_⟩:=hh.fresh _ _ _ ho hb;have hlen:((rows.drop off).take len).length=len:=by simp;omega
  have hl:=jJ hall;have hcs:=(Cells.of_heap hheap).take (rows.length*t.size);rw[htake]at hcs;have hcs2:=(hcs.drop (off*t.size)).take (len*t.size);rw[oP css hl off,rX _ (λc hc=>hl c (List.mem_of_mem_drop hc)) len,Nat.zero_add]at hcs2;have hN0:∀ b j,b<w.heap.size->N' b j->C.N β h b j:=λb j hb hn=>.inl (hN b j hb hn)
  have zXt:bD (λx c=>t.Rel w N' x c) ((rows.drop off).take len) ((css.drop off).take len):=((hall.drop off).take len).mono λ_ _ h=>h.mono (Keep.refl _ w) hN0
  refine .inr (.inl ⟨b,o,_,(css.drop off).take len,by rw[hlen],hf2,λj _ _ hn=>hf1 j (hN b j hf2 hn),by omega,by omega,zXt,λc hc=>hl c (List.mem_of_mem_drop (List.mem_of_mem_take hc)),?_⟩);rcases h3 with h3|⟨h3,_⟩
  ·rw[h3,hpz];exact hcs2
  ·have hl0:len=0:=by omega
   subst hl0;simpa using Cells.nil
theorem L.Dw{h:List Ob}{l l':L}{cs:List Value}{N':Nat->Nat->Prop}(hd:l.deep h=some (true,l'))(hh:fB C β h w)(hN:∀ b j,b<w.heap.size->N' b j->C.N0 b j)(hr:l.Rel β w (C.N β h) cs):l'.Rel β' w N' cs/\l'.isD=true:=by
 have hN0:∀ b j,b<w.heap.size->N' b j->C.N β h b j:=λb j hb hn=>.inl (hN b j hb hn)
 have plain:l.isD=true->l'=l->l'.Rel β' w N' cs/\l'.isD=true:=λh1 h2=>by subst h2;exact⟨L.yWe hN0 h1 hr,h1⟩
 cases l with
 |val t x=>simp only[L.deep,aA,aB,true_and]at hd;exact plain rfl hd.symm
 |lF=>simp only[L.deep,aA,aB,true_and]at hd;exact plain rfl hd.symm
 |bJ=>simp only[L.deep,aA,aB,true_and]at hd;exact plain rfl hd.symm
 |qY t x off=>simp only[L.deep,aA,aB,true_and]at hd;exact plain rfl hd.symm
 |clo f cs =>
  cases cs with
  |nil=>simp only[L.deep,aA,aB,true_and]at hd;exact plain rfl hd.symm
  |cons _ _=>simp[L.deep]at hd
 |own id ver =>
  simp only[L.deep]at hd;split at hd
  ·rename_i e t v rows wr ho;simp only[aA,aB]at hd;obtain⟨hv,rfl⟩:=hd;have hv:=aK hv;have hob:=hh.obj _ _ ho;simp only[Ob.Rel]at hob;obtain⟨_,_,hpv,_,_,hpl,_⟩:=hob;simp only[L.Rel]at hr;obtain⟨_,_,_,c,rfl,_,himp⟩:=hr;have hsl:=himp (by rw[hpv,hv]);rw[hpl]at hsl;have:=zZz hh ho hsl (by omega) hN;rw[List.drop_zero,List.take_length]at this;exact⟨by simpa only[L.Rel]using this,rfl⟩
  ·cases hd
 |sl id ver off len =>
  simp only[L.deep]at hd;split at hd
  ·rename_i e t v rows wr ho;simp only[aA,aB,aD]at hd;obtain⟨⟨hv,hle⟩,rfl⟩:=hd;have hv:=aK hv;have hob:=hh.obj _ _ ho;simp only[Ob.Rel]at hob;obtain⟨_,_,hpv,_,_,hpl,_⟩:=hob;simp only[L.Rel]at hr;obtain⟨_,_,_,c,rfl,_,himp⟩:=hr;exact⟨by simpa only[L.Rel]using zZz hh ho (himp (by rw[hpv,hv])) (bR hle) hN,rfl⟩
  ·cases hd
 |_=>simp[L.deep]at hd
theorem zUv{h:List Ob}{N':Nat->Nat->Prop}(hh:fB C β h w)(hN:∀ b j,b<w.heap.size->N' b j->C.N0 b j):∀ {ls ls':List L}{cs:List Value},zDv h ls=some (true,ls')->aG β w (C.N β h) ls cs->aG β' w N' ls' cs/\dA L.isD ls'=true
 |[],ls',cs,hd,hr=>by
  simp only[zDv,aA,aB,true_and]at hd;subst hd;exact⟨hr,rfl⟩
 |l::ls,ls',cs,hd,hr=>by
  simp only[zDv]at hd;split at hd
  ·rename_i c x d r h1 h2;simp only[aA,aB,aD]at hd;obtain⟨⟨rfl,rfl⟩,rfl⟩:=hd;obtain⟨c1,c2,e,r1,r2⟩:=hr;obtain⟨g1,g2⟩:=L.Dw (β':=β') h1 hh hN r1;obtain⟨g3,g4⟩:=zUv hh hN h2 r2;exact⟨⟨c1,c2,e,g1,g3⟩,by simp only[dA,g2,g4,Bool.and_self]⟩
  ·cases hd
theorem V.Dw{h:List Ob}{v v':V}{x:Value}{N':Nat->Nat->Prop}(hd:v.deep h=some (true,v'))(hh:fB C β h w)(hN:∀ b j,b<w.heap.size->N' b j->C.N0 b j)(hr:v.Rel β w (C.N β h) x):v'.Rel β' w N' x/\v'.isD=true:=by
 cases v with
 |one l =>
  simp only[V.deep]at hd;split at hd
  ·rename_i c y h1;simp only[aA,aB]at hd;obtain⟨rfl,rfl⟩:=hd;exact L.Dw h1 hh hN hr
  ·cases hd
 |agg ls =>
  simp only[V.deep]at hd;split at hd
  ·rename_i c y h1;simp only[aA,aB]at hd;obtain⟨rfl,rfl⟩:=hd;obtain⟨cs,e,hr⟩:=hr;obtain⟨g1,g2⟩:=zUv (β':=β') hh hN h1 hr;exact⟨⟨cs,e,g1⟩,g2⟩
  ·cases hd
 |_=>simp[V.deep]at hd
theorem Zt{P:Program}{t:TypeId}{x y:Value}(h:(Instr.loadAt t x).run P w=.ok y w):∃ a,x=.pointer (some a)/\(loadVar t a).run P w=.ok y w:=by
 cases x<;>simp only[Instr.loadAt,Instr.sureAddr,Sem.run_bind,run_stuck,Result.andThen,reduceCtorEq]at h
 rename_i a;cases a with
 |none=>simp only[run_stuck,reduceCtorEq]at h
 |some a=>exact⟨a,rfl,by simpa only[Instr.loadAt,Instr.sureAddr,Sem.run_bind,Sem.run_pure,Result.andThen_ok]using h⟩
def zZ (tmps:Array Value):ResultVar->Sem Value | .tmp t=>pure (tmps.getD t undef) | .cell a t=>do loadVar t (<- asAddr (tmps.getD a undef))
theorem zDw{σ:St}{a:Act}(hs:Sim C β σ a w)(t:Nat):(σ.r.getD t .bY).Rel β w (C.N β σ.h) (a.tmps.getD t undef):=aY hs (.tmp t)
theorem yRa{σ:St}{a:Act}{rv:ResultVar}{s:Sum L (List L)}{N':Nat->Nat->Prop}(hT:bM C.P T)(hs:Sim C β σ a w)(hN:∀ b j,b<w.heap.size->N' b j->C.N0 b j)(h:yJc T σ rv=some (true,s)):∃ x,(zZ a.tmps rv).run C.P w=.ok x w/\jH β' w N' s x/\yPz s=true:=by
 cases rv with
 |tmp t =>
  simp only[yJc]at h;have hr:=zDw hs t;refine⟨a.tmps.getD t undef,rfl,?_⟩;split at h
  ·rename_i c l hd;simp only[aA,aB]at h;obtain⟨rfl,rfl⟩:=h;exact V.Dw (β':=β') hd hs.heap hN hr
  ·rename_i c ls hd;simp only[aA,aB]at h;obtain⟨rfl,rfl⟩:=h;exact V.Dw (β':=β') hd hs.heap hN hr
  ·cases h
 |cell t ty =>
  simp only[yJc]at h;have hr:=zDw hs t;split at h
  ·rename_i l hl;rw[hl]at hr;split at h
   ·rename_i c v hv;split at h
    ·rename_i d l2 hd;simp only[aA,aB,aD]at h;obtain⟨⟨rfl,rfl⟩,rfl⟩:=h;obtain⟨y,h1,h2⟩:=Tt hT hv hs.heap hr;obtain⟨ad,h3,h4⟩:=Zt h1;refine⟨y,?_,V.Dw (β':=β') hd hs.heap hN h2⟩;simp only[zZ,h3,asAddr,Sem.run_bind,Sem.run_pure,Result.andThen_ok,h4]
    ·rename_i d ls2 hd;simp only[aA,aB,aD]at h;obtain⟨⟨rfl,rfl⟩,rfl⟩:=h;obtain⟨y,h1,h2⟩:=Tt hT hv hs.heap hr;obtain⟨ad,h3,h4⟩:=Zt h1;refine⟨y,?_,V.Dw (β':=β') hd hs.heap hN h2⟩;simp only[zZ,h3,asAddr,Sem.run_bind,Sem.run_pure,Result.andThen_ok,h4]
    ·cases h
   ·cases h
  ·cases h
theorem zUw{σ:St}{a:Act}{N':Nat->Nat->Prop}(hT:bM C.P T)(hs:Sim C β σ a w)(hN:∀ b j,b<w.heap.size->N' b j->C.N0 b j):∀ {rs:List ResultVar}{vs:List (Sum L (List L))},zKg T σ rs=some (true,vs) ->
 ∀ acc:Array Value,∃ us:List Value,(rs.foldlM (λ(acc:Array Value) rv=>do let v <- zZ a.tmps rv;pure (acc.push v)) acc).run C.P w=.ok (acc++us.toArray) w/\bD (jH β' w N') vs us /\
  dA yPz vs=true
 |[],vs,h,acc=>by
  simp only[zKg,aA,aB,true_and]at h;subst h;exact⟨[],by simp,trivial,rfl⟩
 |rv::rs,vs,h,acc=>by
  simp only[zKg]at h;split at h
  ·rename_i c s d r h1 h2;simp only[aA,aB,aD]at h;obtain⟨⟨rfl,rfl⟩,rfl⟩:=h;obtain⟨x,g1,g2,g3⟩:=yRa (β':=β') hT hs hN h1;obtain⟨us,g4,g5,g6⟩:=zUw hT hs hN h2 (acc.push x);refine⟨x::us,?_,⟨g2,g5⟩,by simp only[dA,g6,Bool.and_true];exact g3⟩;simp only[List.foldlM_cons,Sem.run_bind,g1,Result.andThen_ok,Sem.run_pure,g4];simp
  ·cases h
end
def Qb (vs:List V) (n:Nat):List V:=vs++List.replicate (n-vs.length) .bY
end Go.Dec
namespace Go.Dec
@[reducible] def dB:List Ty->Type
 |[]=>Unit
 |[t]=>t.den
 |t::u::r=>t.den × dB (u::r)
def sG:List Value->Value | [u]=>u | us => .tuple us.toArray
def yYo(bor:Bool)(N:Nat->Nat->Prop):Nat->Nat->Prop :=
 match bor with
 |true=>λ_ _=>False
 |false=>N
def nS(w:World)(N:Nat->Nat->Prop):(ts:List Ty)->dB ts->List Value->Prop
 |[],_,us=>us=[]
 |[t],x,us=>∃ u,us=[u]/\t.bP w N x u
 |t::s::r,x,us=>∃ u us',us=u::us'/\t.bP w N x.1 u/\nS w N (s::r) x.2 us'
def vOf(t:Ty)(x:t.den):V :=
 match t.isAgg with
 |true=>.agg (explode t x)
 |false=>.one (.val t x)
def sOf(t:Ty)(x:t.den):Sum L (List L):=
 match t.isAgg with
 |true=>.inr (explode t x)
 |false=>.inl (.val t x)
def zDx:(ts:List Ty)->dB ts->List V | [],_=>[] | [t],x=>[vOf t x] | t :: s :: r,x=>vOf t x.1 :: zDx (s :: r) x.2
def yJd:(ts:List Ty)->dB ts->List (Sum L (List L)) | [],_=>[] | [t],x=>[sOf t x] | t :: s :: r,x=>sOf t x.1 :: yJd (s :: r) x.2
def yJe(t:Ty)(ls:List L):Option t.den :=
 match dS t ls with
 |some (x,[])=>some x
 |_=>none
def zSw(t:Ty)(s:Sum L (List L)):Option t.den :=
 match t.isAgg,s with
 |true,.inr ls=>yJe t ls
 |false,.inl l=>l.asT t
 |_,_=>none
def Yz:(ts:List Ty)->List (Sum L (List L))->Option (dB ts)
 |[],[]=>some ()
 |[t],[s]=>zSw t s
 |t::u::r,s::ss =>
  match zSw t s,Yz (u::r) ss with
  |some x,some y=>some (x,y)
  |_,_=>none
 |_,_=>none
def V.sum:V->Option (Sum L (List L)) | .one l=>some (.inl l) | .agg ls=>some (.inr ls) | _=>none
def zNc(bor:Bool)(h:List Ob)(t:Ty)(v:V):Option (Bool × t.den):=
 match bor with
 |true =>
  match v.deep h with
  |some (c,u)=>
   match u.sum with
   |some s=>match zSw t s with
    |some x=>some (c,x)
    |none=>none
   |none=>none
  |none=>none
 |false =>
  match v.isD,v.sum with
  |true,some s=>match zSw t s with
   |some x=>some (true,x)
   |none=>none
  |_,_=>none
def Iu(bor:Bool)(h:List Ob):(ts:List Ty)->List V->Option (Bool × dB ts)
 |[],[]=>some (true,())
 |[t],[v]=>zNc bor h t v
 |t::u::r,v::vs =>
  match zNc bor h t v,Iu bor h (u::r) vs with
  |some (c,x),some (d,y)=>some (c&&d,(x,y))
  |_,_=>none
 |_,_=>none
def Ty.flat:Ty->Bool | .pair a b=>a.flat&&b.flat | .arr _ a=>a.flat | .slice _=>false | .clip _=>false | .opq=>false | _=>true
section
variable {β:Nat->Pl}
variable {w:World}
variable {N:Nat->Nat->Prop}
theorem yFt{t:Ty}{x:t.den}{u:Value}(h:t.bP w N x u):(vOf t x).Rel β w N u:=by
 unfold vOf;unfold Ty.bP at h;cases ha:t.isAgg with
 |true =>
  rw[ha,if_pos rfl]at h;obtain⟨cs,e,h⟩:=h;exact⟨cs,e,lC h⟩
 |false =>
  rw[ha,if_neg (by simp)]at h;simp only[V.Rel,L.Rel];exact h
theorem zUx:∀ {ts:List Ty}{x:dB ts}{us:List Value},nS w N ts x us->rA β w N (zDx ts x) us
 |[],_,_,h=>by simp only[nS]at h;subst h;trivial
 |[t],x,_,h=>by obtain⟨u,rfl,h⟩:=h;exact⟨yFt h,trivial⟩
 |t::s::r,x,_,h=>by
  obtain⟨u,us,rfl,h,h2⟩:=h;exact⟨yFt h,zUx h2⟩
theorem yFu{t:Ty}{x:t.den}{u:Value}(h:t.bP w N x u):jH β w N (sOf t x) u:=by
 unfold sOf;unfold Ty.bP at h;cases ha:t.isAgg with
 |true =>
  rw[ha,if_pos rfl]at h;obtain⟨cs,e,h⟩:=h;exact⟨cs,e,lC h⟩
 |false =>
  rw[ha,if_neg (by simp)]at h;simp only[jH,L.Rel];exact h
theorem zUy:∀ {ts:List Ty}{x:dB ts}{us:List Value},nS w N ts x us->bD (jH β w N) (yJd ts x) us
 |[],_,_,h=>by simp only[nS]at h;subst h;trivial
 |[t],x,_,h=>by obtain⟨u,rfl,h⟩:=h;exact⟨yFu h,trivial⟩
 |t::s::r,x,_,h=>by
  obtain⟨u,us,rfl,h,h2⟩:=h;exact⟨yFu h,zUy h2⟩
theorem yNb{t:Ty}{ls:List L}{x:t.den}{cs:List Value}(h:yJe t ls=some x)(hr:aG β w N ls cs):t.Rel w N x cs:=by
 unfold yJe at h;split at h
 ·rename_i y hi;simp only[aA]at h;subst h;obtain⟨c1,c2,e,h1,h2⟩:=uS hi hr;simp only[aG]at h2;subst h2;rw[List.append_nil]at e;subst e;exact h1
 ·cases h
theorem zDy{t:Ty}{s:Sum L (List L)}{x:t.den}{u:Value}(h:zSw t s=some x)(hr:jH β w N s u):t.bP w N x u:=by
 unfold zSw at h;unfold Ty.bP;split at h
 ·rename_i ls ha;rw[ha,if_pos rfl];obtain⟨cs,e,hr⟩:=hr;exact⟨cs,e,yNb h hr⟩
 ·rename_i l ha;rw[ha,if_neg (by simp)];exact L.zJt h hr
 ·cases h
theorem zUz:∀ {ts:List Ty}{ss:List (Sum L (List L))}{x:dB ts}{us:List Value},Yz ts ss=some x->bD (jH β w N) ss us->nS w N ts x us
 |[],[],_,[],_,_=>rfl
 |[t],[s],x,[u],h,hr=>⟨u,rfl,zDy h hr.1⟩
 |t::u::r,s::ss,x,v::vs,h,hr=>by
  simp only[Yz]at h;split at h
  ·rename_i y z h1 h2;simp only[aA]at h;subst h;exact⟨v,vs,rfl,zDy h1 hr.1,zUz h2 hr.2⟩
  ·cases h
 |[],[],_,_::_,_,hr=>hr.elim
 |[],_::_,_,_,h,_=>by simp[Yz]at h
 |[t],[],_,_,h,_=>by simp[Yz]at h
 |[t],[s],_,[],_,hr=>hr.elim
 |[t],[s],_,_::_::_,_,hr=>hr.2.elim
 |[t],_::_::_,_,_,h,_=>by simp[Yz]at h
 |t::u::r,[],_,_,h,_=>by simp[Yz]at h
 |t::u::r,s::ss,_,[],_,hr=>hr.elim
theorem V.zSx{v:V}{s:Sum L (List L)}{u:Value}(h:v.sum=some s)(hr:v.Rel β w N u):jH β w N s u:=by
 cases v<;>simp only[V.sum,aA,reduceCtorEq]at h<;>subst h<;>exact hr
theorem Ty.Rel.flat{N':Nat->Nat->Prop}{w':World}:∀ {t:Ty}{x:t.den}{cs:List Value},t.flat=true->t.Rel w N x cs->t.Rel w' N' x cs
 |.unit,_,_,_,h=>h
 |.bool,_,_,_,h=>h
 |.int _,_,_,_,h=>h
 |.str,_,_,_,h=>h
 |.err,_,_,_,h=>h
 |.opq,_,_,hf,_=>by cases hf
 |.slice _,_,_,hf,_=>by cases hf
 |.clip _,_,_,hf,_=>by cases hf
 |.pair a b,_,_,hf,h=>by
  simp only[Ty.flat,aD]at hf;obtain⟨c1,c2,e,h1,h2⟩:=h;exact⟨c1,c2,e,Ty.Rel.flat hf.1 h1,Ty.Rel.flat hf.2 h2⟩
 |.arr n a,_,_,hf,h=>by
  simp only[Ty.flat]at hf;obtain⟨h0,css,e,h1⟩:=h;exact⟨h0,css,e,h1.mono λx c hx=>Ty.Rel.flat hf hx⟩
theorem Ty.bP.flat{N':Nat->Nat->Prop}{w':World}{t:Ty}{x:t.den}{u:Value}(hf:t.flat=true)(h:t.bP w N x u):t.bP w' N' x u:=by
 unfold Ty.bP at *;split
 ·rename_i ha;rw[if_pos ha]at h;obtain⟨cs,e,h⟩:=h;exact⟨cs,e,h.flat hf⟩
 ·rename_i ha;rw[if_neg ha]at h;exact h.flat hf
theorem nS.flat{N':Nat->Nat->Prop}{w':World}:∀ {ts:List Ty}{x:dB ts}{us:List Value},dA Ty.flat ts=true->nS w N ts x us->nS w' N' ts x us
 |[],_,_,_,h=>h
 |[t],x,_,hf,h=>by
  simp only[dA,Bool.and_true]at hf;obtain⟨u,e,h⟩:=h;exact⟨u,e,h.flat hf⟩
 |t::s::r,x,_,hf,h=>by
  simp only[dA,aD]at hf;obtain⟨u,us,e,h,h2⟩:=h;exact⟨u,us,e,h.flat hf.1,nS.flat (by simp only[dA,aD];exact hf.2) h2⟩
end
def Pure(P:Program)(f:FuncId)(as rs:List Ty)(F:dB as->Option (dB rs)):Prop :=
 iH P f=true/\∀ x y,F x=some y->∀ (w:World) (N:Nat->Nat->Prop) (xs:List Value),Glob P w->(∀ b j,N b j->b<w.heap.size)->nS w N as x xs ->
  Calls P f xs.toArray w λe w'=>∃ us:List Value,e=.returned (sG us)/\w'.os=w.os/\w'.tape=w.tape/\w'.output=w.output/\Keep (λ_ _=>False) w w'/\nS w' N rs y us
def yJf(T:Tab)(res:List ResultVar)(rs:List Ty)(σ:St):Option (dB rs):=
 match zKg T σ res with
 |some (c,vs)=>
  match Yz rs vs with
  |some y=>chk c (some y)
  |none=>none
 |none=>none
def yJg(T:Tab)(res:List ResultVar)(rs:List Ty):K (dB rs):=λe σ =>
 match e with
 |.normal=>yJf T res rs σ
 |.ret=>yJf T res rs σ
 |_=>none
section
variable {T:Tab}
variable {P:Program}
theorem yAa{C:Ctx}{β β':Nat->Pl}{w:World}{σ:St}{a:Act}{fn:Func}{vs:List (Sum L (List L))}{N':Nat->Nat->Prop}(hT:bM C.P T)(hs:Sim C β σ a w)(hN:∀ b j,b<w.heap.size->N' b j->C.N0 b j)(h:zKg T σ fn.results.toList=some (true,vs)):∃ us:List Value,(results fn a.tmps).run C.P w=.ok (sG us) w/\bD (jH β' w N') vs us:=by
 obtain⟨us,h1,h2,_⟩:=zUw (β':=β') hT hs hN h #[];refine⟨us,?_,h2⟩;have e0:results fn a.tmps=(do let vs <- fn.results.mapM (zZ a.tmps);pure (if h:vs.size=1 then vs[0]else .tuple vs)):=by
  unfold results;congr 1
 have hm:(fn.results.mapM (zZ a.tmps):Sem (Array Value)).run C.P w=.ok us.toArray w:=by
  rw[Array.mapM_eq_foldlM,<- Array.foldlM_toList];have e:(λ(acc:Array Value) rv=>do let v <- zZ a.tmps rv;pure (acc.push v):Array Value->ResultVar->Sem (Array Value))=(λ(acc:Array Value) rv=>acc.push <$> zZ a.tmps rv):=by
   funext acc rv;rfl
  rw[e]at h1;simpa using h1
 rw[e0];simp only[Sem.run_bind,hm,Result.andThen_ok,Sem.run_pure];match us with
 |[]=>rfl
 |[u]=>rfl
 |u::v::us=>simp[sG]
theorem zHi:∀ cs:List Co,dA (Co.fx 0) cs=true
 |[]=>rfl
 |c::cs=>by
  simp only[dA,zHi cs,Bool.and_true];cases c<;>first|rfl|simp[Co.fx]
theorem Qp{ρ:Type}:∀ an:An ρ,an.fx 0=true
 |.nil=>rfl
 |.mk l r c=>by simp only[An.fx,Qp l,Qp r,zHi,Bool.and_self]
 |.loop _ c0 c1 _ a=>by simp only[An.fx,Qp a,zHi,Bool.and_self]
 |.scope _ a b=>by simp only[An.fx,Qp a,Qp b,Bool.and_self]
 |.sem _=>rfl
 |.co c a=>by simp only[An.fx,Qp a,zHi,Bool.and_self]
 |.join _ c a=>by simp only[An.fx,Qp a,zHi,Bool.and_self]
theorem bT{f:FuncId}{fn:Func}{c:Code}{as rs:List Ty}{F:dB as->Option (dB rs)}{Γ:Orc (dB rs)}{an:An (dB rs)}(hf:P.funcs[f]?=some fn)(hb:fn.body=some c)(hh:iH P f=true)(hT:bM P T)(hΓ:kQ P Γ)(hm:P.follows .mixedOrders=true)(ha:zNb P 0 c an)(h:∀ x,ev Γ T c an ⟨Qb (zDx as x) fn.ntmps,[]⟩ (yJg T fn.results.toList rs)=F x):Pure P f as rs F:=by
 refine⟨hh,λx y hF w N xs hG hN hx=>?_⟩;rw[<- h x]at hF
 let C:Ctx:={ P:=P,N0:=N,w0:=w,Sb:=λ_ _=>False,glob:=λw' h=>hG.keep λb hb=>h.block b hb (λ_ h=>h),fix:=[] }
 let β0:Nat->Pl:=λ_=>⟨false,false,0,none,0,0,0,[]⟩
 have hargs:rA β0 w N (zDx as x) xs:=zUx hx;have hxl:(zDx as x).length=xs.length:=hargs.length;have Dq:Sim C β0 ⟨Qb (zDx as x) fn.ntmps,[]⟩ { tmps:=xs.toArray++Array.replicate (fn.ntmps-xs.toArray.size) undef,defers:=[] } w:=by
  refine⟨⟨by simp,λ_ _=>rfl,by simp,by simp,hN,Keep.refl _ _,aP _,rfl,rfl,rfl,λj o hj=>by cases hj⟩,rfl,by simp[Qb,hxl],?_⟩;intro i u hu;simp only[Qb]at hu;by_cases hi:i<(zDx as x).length
  ·rw[fV hi]at hu;have hi':i<xs.length:=by rw[<- hxl];exact hi
   have hr:=hargs.get i hi hi';rw[List.getElem?_eq_getElem hi]at hu;simp only[aA]at hu;subst hu;have:(xs.toArray++Array.replicate (fn.ntmps-xs.toArray.size) undef).getD i undef=xs[i]:=by
    rw[Array.getD_eq_getD_getElem?,Array.getElem?_append_left (by simpa using hi')];simp[hi']
   rw[this];refine hr.mono (Moves.refl β0) (Keep.refl _ w) (λb j _ hb=>?_);rcases hb with hb|⟨id,o,ho,_⟩
   ·exact hb
   ·simp at ho
  ·rw[List.getElem?_append_right (by omega),List.getElem?_replicate]at hu;split at hu
   ·simp only[aA]at hu;subst hu;trivial
   ·cases hu
 refine calls_of_wp hf hb ?_;refine zDu (P:=P) hT hΓ hm c an ha (Qp an) _ _ y hF C β0 _ w _ rfl (aP _) Dq ?_;intro e x' σ' β' a' w' hs' hx' hk;have fin:yJf T fn.results.toList rs σ'=some y->x'=.ret\/x'=.normal->bodyPost P fn (λe w'=>∃ us:List Value,e=.returned (sG us)/\w'.os=w.os/\w'.tape=w.tape/\w'.output=w.output/\Keep (λ_ _=>False) w w'/\nS w' N rs y us) x' a' w':=by
  intro hk hx';unfold yJf at hk;split at hk
  ·rename_i cc ss hrs;split at hk
   ·rename_i y' hd;obtain⟨rfl,hk⟩:=iM hk;obtain rfl:=Option.some.inj hk;obtain⟨us,h1,h2⟩:=yAa (C:=C) (β':=β0) (N':=N) (fn:=fn) hT hs' (λ_ _ _ hb=>hb) hrs;have hkeep:Keep (λ_ _=>False) w w':=hs'.heap.frame;have hR:=zUz hd h2;rcases hx' with rfl|rfl
    ·exact⟨hs'.defers,_,h1,us,rfl,hs'.heap.os,hs'.heap.tape,hs'.heap.output,hkeep,hR⟩
    ·exact⟨hs'.defers,_,h1,us,rfl,hs'.heap.os,hs'.heap.tape,hs'.heap.output,hkeep,hR⟩
   ·cases hk
  ·cases hk
 cases e with
 |normal=>obtain rfl:=hx';exact fin hk (.inr rfl)
 |ret=>obtain rfl:=hx';exact fin hk (.inl rfl)
 |exit i=>simp[yJg]at hk
 |goto l=>simp[yJg]at hk
 |pan t u=>simp[yJg]at hk
def bS(as rs:List Ty)(F:dB as->Option (dB rs)):PE where
 R:=dB rs
 use:=1
 run vs h:=match Iu (dA Ty.flat rs) h as vs with
  |some (c,x)=>some (c,F x)
  |none=>none
 enc y _ h:=(yQz (yJd rs y),h)
theorem yAb{C:Ctx}{β:Nat->Pl}{h:List Ob}{w:World}{bor:Bool}{t:Ty}{v:V}{x:t.den}{u:Value}(hd:zNc bor h t v=some (true,x))(hs:fB C β h w)(hr:v.Rel β w (C.N β h) u):t.bP w (yYo bor (C.N β h)) x u:=by
 unfold zNc at hd;cases bor with
 |true =>
  simp only at hd ⊢;split at hd
  ·rename_i c v' hv;split at hd
   ·rename_i s hsum;split at hd
    ·rename_i y hy;simp only[aA,aB]at hd;obtain⟨rfl,rfl⟩:=hd;obtain⟨h1,_⟩:=V.Dw (β':=β) (N':=λ_ _=>False) hv hs (λ_ _ _ h=>h.elim) hr;exact zDy hy (V.zSx hsum h1)
    ·cases hd
   ·cases hd
  ·cases hd
 |false =>
  simp only at hd ⊢;split at hd
  ·rename_i s hD hsum;split at hd
   ·rename_i y hy;simp only[aA,aB,true_and]at hd;subst hd;exact zDy hy (V.zSx hsum hr)
   ·cases hd
  ·cases hd
theorem zVa{C:Ctx}{β:Nat->Pl}{h:List Ob}{w:World}{bor:Bool}(hs:fB C β h w):∀ {ts:List Ty}{vs:List V}{x:dB ts}{us:List Value},Iu bor h ts vs=some (true,x)->rA β w (C.N β h) vs us ->
 nS w (yYo bor (C.N β h)) ts x us
 |[],[],_,[],_,_=>rfl
 |[t],[v],x,[u],hd,hr=>⟨u,rfl,yAb hd hs hr.1⟩
 |t::s::r,v::vs,x,u::us,hd,hr=>by
  simp only[Iu]at hd;split at hd
  ·rename_i c y d z h1 h2;simp only[aA,aB,aD]at hd;obtain⟨⟨rfl,rfl⟩,rfl⟩:=hd;exact⟨u,us,rfl,yAb h1 hs hr.1,zVa hs h2 hr.2⟩
  ·cases hd
 |[],[],_,_::_,_,hr=>hr.elim
 |[],_::_,_,_,h,_=>by simp[Iu]at h
 |[t],[],_,_,h,_=>by simp[Iu]at h
 |[t],[s],_,[],_,hr=>hr.elim
 |[t],[s],_,_::_::_,_,hr=>hr.2.elim
 |[t],_::_::_,_,_,h,_=>by simp[Iu]at h
 |t::u::r,[],_,_,h,_=>by simp[Iu]at h
 |t::u::r,s::ss,_,[],_,hr=>hr.elim
theorem yAc{h:List Ob}:∀ {l:L},l.isD=true->l.deep h=some (true,l)
 |.val ..,_=>rfl
 |.lF,_=>rfl
 |.bJ,_=>rfl
 |.qY ..,_=>rfl
 |.clo f [],_=>rfl
 |.clo f (_::_),h=>by cases h
 |.ptr ..,h=>by cases h
 |.rY ..,h=>by cases h
 |.iZ ..,h=>by cases h
 |.sl ..,h=>by cases h
 |.own ..,h=>by cases h
 |.bad _,h=>by cases h
 |.fC ..,h=>by cases h
theorem zVb{h:List Ob}:∀ {ls:List L},dA L.isD ls=true->zDv h ls=some (true,ls)
 |[],_=>rfl
 |l::ls,hd=>by
  simp only[dA,aD]at hd;simp only[zDv,yAc hd.1,zVb hd.2,Bool.and_self]
theorem yAd{bor:Bool}{t:Ty}{v:V}(hd:v.isD=true)(h h2:List Ob):zNc bor h t v=zNc bor h2 t v:=by
 cases bor with
 |false=>rfl
 |true =>
  unfold zNc;cases v with
  |one l=>simp only[V.deep,yAc (show l.isD=true from hd)]
  |agg ls=>simp only[V.deep,zVb (show dA L.isD ls=true from hd)]
  |_=>rfl
theorem zVc{bor:Bool}:∀ {ts:List Ty}{vs:List V}(_:dA V.isD vs=true) (h h2:List Ob),Iu bor h ts vs=Iu bor h2 ts vs
 |[],[],_,_,_=>rfl
 |[t],[v],hd,h,h2=>by
  simp only[dA,Bool.and_true]at hd;simp only[Iu,yAd hd h h2]
 |t::s::r,v::vs,hd,h,h2=>by
  simp only[dA,aD]at hd;simp only[Iu,yAd hd.1 h h2,zVc (ts:=s::r) hd.2 h h2]
 |[],_::_,_,_,_=>rfl
 |[t],[],_,_,_=>rfl
 |[t],_::_::_,_,_,_=>rfl
 |t::s::r,[],_,_,_=>rfl
theorem yAe{β:Nat->Pl}{w:World}{N:Nat->Nat->Prop}{ss:List (Sum L (List L))}{us:List Value}(h:bD (jH β w N) ss us):(yQz ss).Rel β w N (sG us):=by
 match ss,us,h with
 |[],[],_=>exact⟨[],rfl,trivial⟩
 |[.inl l],[u],h=>exact h.1
 |[.inr ls],[u],h=>exact h.1
 |s::t::ss,u::v::us,h=>cases s<;>exact⟨_,rfl,h⟩
theorem aQ{f:FuncId}{as rs:List Ty}{F:dB as->Option (dB rs)}(h:Pure P f as rs F):(bS as rs F).OK P f:=by
 refine⟨h.1,λvs hp y hr C β w xs hP hs ha=>?_,λ_ vs h1 h2 hd=>⟨by simp only[bS];rw[zVc hd h1 h2],λ_=>rfl⟩,λ_ _ _ _=>rfl,λh=>by cases h⟩;subst hP;simp only[bS]at hr;split at hr
 ·rename_i c x hd;simp only[aA,aB]at hr;obtain⟨rfl,hF⟩:=hr;have hx:=zVa hs hd ha;have hn:∀ b j,C.N β hp b j->b<w.heap.size:=λb j hb=>by
   rcases hb with hb|⟨id,o,ho,_,hbk⟩
   ·exact Nat.lt_of_lt_of_le (hs.n0 b j hb) hs.size
   ·exact(hs.eY id o b ho ⟨j,hbk⟩).2.1
  refine(h.2 x y hF w _ xs (C.glob w hs.frame) (λb j hb=>?_) hx).mono ?_
  ·cases hfl:dA Ty.flat rs with
   |true=>rw[hfl]at hb;exact hb.elim
   |false=>rw[hfl]at hb;exact hn b j hb
  ·rintro e w' ⟨us,rfl,ho,ht,hop,hk,hy⟩;have hy':nS w' (C.N β hp) rs y us:=by
    cases hfl:dA Ty.flat rs with
    |true=>exact hy.flat hfl
    |false=>rw[hfl]at hy;exact hy
   refine⟨_,_,β,⟨rfl,rfl⟩,Moves.refl β,hk.weaken λ_ _ h=>h.elim,λ_ _ _ h=>h,?_,_,rfl,yAe (zUy hy')⟩;refine⟨λid o hob=>(hs.obj id o hob).mono (Moves.refl β) (hk.weaken λ_ _ h=>h.elim) (λ_ _ _ h=>h) λb hb=>hk.block b (hs.eY id o b hob hb).2.1 (λ_ h=>h),hs.dead,hs.kR,?_,hs.n0,hs.frame.tN hk λ_ _ _ h=>h.elim,Nat.le_trans hs.size hk.size,ho.trans hs.os,ht.trans hs.tape,hop.trans hs.output,hs.fixed⟩
   ·intro id o b hob hb;obtain⟨k1,k2,k3⟩:=hs.eY id o b hob hb;exact⟨k1,Nat.lt_of_lt_of_le k2 hk.size,k3⟩
 ·cases hr
def pes:List (FuncId × PE)->FuncId->Option PE
 |[],_=>none
 |(g,e)::r,f=>match Nat.beq g f with
  |true=>some e
  |false=>pes r f
def orc (ρ:Type) (l:List (FuncId×PE)):Orc ρ := { pure:=pes l,gen:=fun _ _ _ _=>none }
theorem yYp{ρ:Type}:∀ {l:List (FuncId × PE)},(∀ p∈l,p.2.OK P p.1)->kQ P (orc ρ l):=by
 intro l h;refine⟨λf e he=>?_,λ_ _ _ _ _ h=>by cases h⟩;simp only[orc]at he;induction l with
 |nil=>cases he
 |cons p r ih =>
  obtain⟨g,e'⟩:=p;simp only[pes]at he;split at he
  ·rename_i hb;have:=aK hb;subst this;simp only[aA]at he;subst he;exact h _ (.head _)
  ·exact ih (λp hp=>h p (.tail _ hp)) he
theorem all_nil{Q:FuncId × PE->Prop}:∀ p∈([]:List (FuncId × PE)),Q p:=λ_ h=>by cases h
theorem all_cons{Q:FuncId × PE->Prop}{p:FuncId × PE}{l:List (FuncId × PE)}(h:Q p)(hl:∀ q∈l,Q q):∀ q∈p::l,Q q:=λq hq=>by
 cases hq with
 |head=>exact h
 |tail _ hq=>exact hl q hq
end
end Go.Dec
