import Derived.Test.YtfbilefiaminnaaGreatDoorPtrtAD
import Derived.Test.YtfbilefiaminnaaGreatDoorPtrtAE
import Derived.OwnWalkIn
import Derived.TacticsInMore
import Derived.Lib.IndexMore
open Nat renaming beq->vF,lt_of_lt_of_le->wD,zero_add->yY,le_trans->zG
open List renaming mem_of_getElem?->qDk,getElem?_cons_zero->qAi,replicate->qAf,append_nil->vE,getElem?_append_right->yZ,getElem?_eq_none->qAu,getElem?_map->qBx,getD_eq_getElem?_getD->wG,mem_of_mem_drop->qDn,drop_zero->qEk,foldlM_cons->qEl,getElem?_eq_getElem->wW,getElem?_replicate->qEo,getElem?_cons_succ->qEa,getElem?_of_mem->qEp
open Go.Sem renaming run_bind->jJ,run_pure->jI
open Go.Result renaming andThen_ok->kQ
open Bool renaming and_self->qEi,and_true->qEj
open Go.Region renaming wanted->qDu
open Array renaming replicate->qDy,getD_eq_getD_getElem?->qCl,mapM_eq_foldlM->qEm,foldlM_toList->qEn
open Option.some renaming inj->qBc
open Option renaming map_eq_some_iff->qBu,map_some->kU
namespace Go.Dec
def zVa (J:Nat->Act->World->Prop) (Q:Exit->Act->World->Prop):Exit->Act->World->Prop | .goto l,a,w=>J l a w | e,a,w=>Q e a w
theorem zYe{P:Program}{a:Act}{w:World}{Q:Exit->Act->World->Prop}{c:Code}(J:Nat->Nat->Act->World->Prop)(first:c.wp P (zVa (λl a w=>∃ m,J m l a w) Q) a w)(pass:∀ m l a w,J m l a w->∃ rest,findLabel c l=some rest/\rest.wp P (zVa (λl' a' w'=>∃ m',m'<m/\J m' l' a' w') Q) a w):(Code.scope c).wp P Q a w:=by
 intro b k cs;have key:∀ m l a w,J m l a w->∃ rest e a' w',findLabel c l=some rest/\Q e a' w'/\Arrives P (lone (b.at a (.code rest::.inScope c::k)) cs w) b k cs e a' w':=by
  intro m;induction m using Nat.strongRecOn with
  |_ m ih =>
   intro l a w hJ;obtain⟨rest,hf,hp⟩:=pass m l a w hJ;obtain⟨e,a₁,w₁,hq,harr⟩:=hp b (.inScope c::k) cs;refine⟨rest,?_⟩;cases e with
   |normal=>exact⟨.normal,a₁,w₁,hf,hq,Steps.trans harr (.one step_inScope)⟩
   |exit id=>exact⟨.exit id,a₁,w₁,hf,hq,λk' hk=>harr k' (by simp[exitTo,hk])⟩
   |goto l' =>
    obtain⟨m',hlt,hJ'⟩:=hq;obtain⟨rest',e₂,a₂,w₂,hf',hq₂,harr₂⟩:=ih m' hlt l' a₁ w₁ hJ';have hg:gotoIn l' (.inScope c::k)=some (.code rest'::.inScope c::k):=by simp[gotoIn,hf']
    exact⟨e₂,a₂,w₂,hf,hq₂,.of_steps (harr _ hg) harr₂⟩
   |ret=>exact⟨_,a₁,w₁,hf,hq,harr⟩
   |panic ch=>exact⟨_,a₁,w₁,hf,hq,harr⟩
   |outgrown=>exact⟨_,a₁,w₁,hf,hq,harr⟩
 obtain⟨e,a₁,w₁,hq,harr⟩:=first b (.inScope c::k) cs
 cases e with
 |normal=>exact⟨.normal,a₁,w₁,hq,.head step_scope (Steps.trans harr (.one step_inScope))⟩
 |exit id=>exact⟨.exit id,a₁,w₁,hq,λk' hk=>.head step_scope (harr k' (by simp[exitTo,hk]))⟩
 |goto l' =>
  obtain⟨m,hJ'⟩:=hq;obtain⟨rest,e₂,a₂,w₂,hf,hq₂,harr₂⟩:=key m l' a₁ w₁ hJ';have hg:gotoIn l' (.inScope c::k)=some (.code rest::.inScope c::k):=by simp[gotoIn,hf]
  exact⟨e₂,a₂,w₂,hq₂,.of_steps (.head step_scope (harr _ hg)) harr₂⟩
 |ret=>exact⟨_,a₁,w₁,hq,.of_steps (.one step_scope) harr⟩
 |panic ch=>exact⟨_,a₁,w₁,hq,.of_steps (.one step_scope) harr⟩
 |outgrown=>exact⟨_,a₁,w₁,hq,.of_steps (.one step_scope) harr⟩
def flows:List Oper->List Nat->List Nat
 |[],ds=>ds
 |o::r,ds=>flows r (match o.op,o.dst with
  |.build _ parts,some e=>if parts.toList.any (λp=>match p.2 with|.tmp t=>ds.any (vF t)|_=>false)then e::ds else ds
  |_,_=>ds)
def xCj{ρ:Type}(Γ:Orc ρ)(ops:Array Oper)(o:Oper):Bool :=
 match o.op,o.dst with
 |.buildSlice _ _ _,some d=>(λds=>ops.toList.any λp=>match p.op with
  |.call { callee:=.value (.func f),args,.. }=>args.toList.any (λx=>match x with|.tmp e=>ds.any (vF e)|_=>false)&&(Γ.pure f).isSome
  |.buildSlice _ _ parts=>parts.toList.any (λq=>match q.2 with|.tmp e=>ds.any (vF e)|_=>false)
  |_=>false) (flows ops.toList [d])
 |_,_=>false
section xKt
variable {ρ:Type}(Γ:Orc ρ)(T:Tab)
def zOa(ops:Array Oper)(σ:St)(o:Oper)(k:K ρ):Option ρ :=
 match xCj Γ ops o with
 |true=>match zKv T σ o with
  |some v=>k .normal ⟨cB σ.r o.dst v,σ.h⟩
  |none=>none
 |false=>Yk Γ T σ o k
def Ez(ops:Array Oper):List Oper->St->K ρ->Option ρ
 |[],σ,k=>k .normal σ
 |o::rest,σ,k =>
  match o.guard with
  |none=>zOa Γ T ops σ o λe σ'=>match e with|.normal=>Ez ops rest σ' k|e=>k e σ'
  |some (j,want)=>
   match Sy ops j with
   |some s =>
    match σ.r.getD s .cK with
    |.one (.val .bool b)=>
     br b
      (match want with
       |true=>zOa Γ T ops ⟨σ.r.set s (.one (.val .bool true)),σ.h⟩ o λe σ'=>match e with|.normal=>Ez ops rest σ' k|e=>k e σ'
       |false=>Ez ops rest ⟨cB (σ.r.set s (.one (.val .bool true))) o.dst (.tup []),σ.h⟩ k)
      (match want with
       |false=>zOa Γ T ops ⟨σ.r.set s (.one (.val .bool false)),σ.h⟩ o λe σ'=>match e with|.normal=>Ez ops rest σ' k|e=>k e σ'
       |true=>Ez ops rest ⟨cB (σ.r.set s (.one (.val .bool false))) o.dst (.tup []),σ.h⟩ k)
    |.tup []=>Ez ops rest ⟨cB σ.r o.dst (.tup []),σ.h⟩ k
    |_=>none
   |none=>none
end xKt
section xFb
variable {ρ:Type}{Γ:Orc ρ}{T:Tab}{C:Ctx}
theorem yKa(hT:bU C.P T)(hΓ:kW C.P Γ){ops:Array Oper}{β:Nat->Pl}{σ:St}{a:Act}{w:World}{o:Oper}{k:Dec.K ρ}{r:ρ}{next:Act->World->Prop}{Q:Exit->Act->World->Prop}(h:zOa Γ T ops σ o k=some r)(hs:Sim C β σ a w)(hn:∀ σ' β' a' w',Sim C β' σ' a' w'->k .normal σ'=some r->next a' w')(hq:∀ e x σ' β' a' w',Sim C β' σ' a' w'->e≠.normal->Nc β' w' (C.N β' σ'.h) e x->k e σ'=some r->Q x a' w'):o.wp C.P a w next Q:=by
 unfold zOa at h;split at h
 ·split at h
  ·rename_i v hv;obtain⟨w',v',hrun,hs',hv'⟩:=yLd hT hs hv;unfold Oper.wp;rw[hrun,Oper.upon_value];exact hn _ β _ w' (hs'.put o.dst hv') h
  ·cases h
 ·exact zUr hT hΓ h hs hn hq
theorem Fa(hT:bU C.P T)(hΓ:kW C.P Γ){ops:Array Oper}{r:ρ}{Q:Exit->Act->World->Prop}{k:Dec.K ρ}(hq:∀ e x σ' β' a' w',Sim C β' σ' a' w'->Nc β' w' (C.N β' σ'.h) e x->k e σ'=some r->Q x a' w'):∀ (l:List Oper) (β:Nat->Pl) (σ:St) (a:Act) (w:World),Ez Γ T ops l σ k=some r->Sim C β σ a w->wpList C.P ops Q l a w
 |[],β,σ,a,w,h,hs=>hq .normal .normal σ β a w hs rfl h
 |o::rest,β,σ,a,w,h,hs=>by
  simp only[Ez]at h;have yXd:∀ σ1:St,σ1=σ->(zOa Γ T ops σ1 o λe σ'=>match e with|.normal=>Ez Γ T ops rest σ' k|e=>k e σ')=some r->o.wp C.P a w (wpList C.P ops Q rest) Q:=by
   intro σ1 e1 h1;subst e1;refine yKa hT hΓ h1 hs (λσ' β' a' w' hs' hk=>Fa hT hΓ hq rest β' σ' a' w' hk hs') ?_;intro e x σ' β' a' w' hs' hne hx hk;refine hq e x σ' β' a' w' hs' hx ?_;cases e<;>first|exact absurd rfl hne|exact hk
  split at h
  ·rename_i hg;simp only[wpList];rw[if_pos (by simp[qDu,hg])];exact .inl (yXd σ rfl h)
  ·rename_i j want hg;split at h
   ·rename_i s hsl;split at h
    ·rename_i b hb;have zRt:∃ v,σ.r[s]?=some v/\v=.one (.val .bool b):=by
      rw[wG]at hb;cases hr:σ.r[s]? with
      |none=>rw[hr]at hb;cases hb
      |some v=>rw[hr]at hb;exact⟨v,rfl,hb⟩
     obtain⟨v,hv,rfl⟩:=zRt;have hval:=hs.reg s _ hv;simp only[V.Rel,L.Rel,Ty.Rel,aL,and_true]at hval;have hy:=zKo hsl hval;have hwant:qDu o (yielded ops a.tmps)=(b==want):=by
      simp only[qDu,hg,hy];cases b<;>cases want<;>rfl
     have hset:σ.r.set s (.one (.val .bool b))=σ.r:=yKz hb (by simp);simp only[wpList];rcases Xt h with ⟨rfl,h1⟩|⟨rfl,h1⟩
     ·cases want with
      |true =>
       rw[if_pos (by rw[hwant];rfl)];exact .inl (yXd _ (by rw[hset]) h1)
      |false =>
       rw[if_neg (by rw[hwant];simp)];simp only[hset]at h1;exact Fa hT hΓ hq rest β _ _ w h1 (hs.put o.dst (v:=.tup []) ⟨[],rfl,trivial⟩)
     ·cases want with
      |false =>
       rw[if_pos (by rw[hwant];rfl)];exact .inl (yXd _ (by rw[hset]) h1)
      |true =>
       rw[if_neg (by rw[hwant];simp)];simp only[hset]at h1;exact Fa hT hΓ hq rest β _ _ w h1 (hs.put o.dst (v:=.tup []) ⟨[],rfl,trivial⟩)
    ·rename_i hb;have zRt:σ.r[s]?=some (.tup []):=by
      rw[wG]at hb;cases hr:σ.r[s]? with
      |none=>rw[hr]at hb;cases hb
      |some v=>rw[hr]at hb;simp at hb;rw[hb]
     have hval:=hs.reg s _ zRt;obtain⟨us,hval,hus⟩:=hval;have hwant:qDu o (yielded ops a.tmps)=false:=by
      simp only[qDu,hg,zKp hsl hval];cases want<;>rfl
     simp only[wpList];rw[if_neg (by rw[hwant];simp)];exact Fa hT hΓ hq rest β _ _ w h (hs.put o.dst (v:=.tup []) ⟨[],rfl,trivial⟩)
    ·cases h
   ·cases h
end xFb
inductive An (ρ:Type) where
 |nil
 |mk (l r:An ρ) (c:List Co)
 |loop (sh:Sh) (c0 c1:List Co) (n:Nat) (a:An ρ)
 |scope (l:Nat) (a b:An ρ)
 |sem (f:Kw ρ)
 |co (cs:List Co) (a:An ρ)
 |join (sh:Sh) (cs:List Co) (a:An ρ)
def An.l {ρ:Type}:An ρ->An ρ | .mk l _ _=>l | .scope _ a _=>a | _ => .nil
def An.r {ρ:Type}:An ρ->An ρ | .mk _ r _=>r | _ => .nil
def An.c {ρ:Type}:An ρ->List Co | .mk _ _ c=>c | _=>[]
def fix {ρ α:Type} (B:(α->Option ρ)->α->Option ρ):Nat->α->Option ρ | 0,_=>none | n+1,x=>B (fix B n) x
def enter{ρ:Type}(T:Tab)(sh:Sh)(co:List Co)(σ:St)(g:sh.X->Option ρ):Option ρ :=
 norm T co σ λσ1=>match sh.dec σ1 with
  |some x=>g x
  |none=>none
def An.plain {ρ:Type}:An ρ->Bool | .nil=>true | .mk l r _=>l.plain&&r.plain | .loop _ _ _ _ a=>a.plain | .scope _ a _=>a.plain | .sem _=>false | .co _ a=>a.plain | .join _ _ a=>a.plain
def An.fx {ρ:Type} (k:Nat):An ρ->Bool | .nil=>true | .mk l r c=>l.fx k&&(r.fx k&&dF (Co.fx k) c) | .loop _ c0 c1 _ a=>dF (Co.fx k) c0&&(dF (Co.fx k) c1&&a.fx k) | .scope _ a b=>a.fx k&&b.fx k | .sem _=>true | .co c a=>dF (Co.fx k) c&&a.fx k | .join _ c a=>dF (Co.fx k) c&&a.fx k
section ev
variable {ρ:Type}(Γ:Orc ρ)(T:Tab)
def Hl(an:An ρ)(σ:St)(k:K ρ)(d:Option ρ):Option ρ :=
 match an with
 |.sem f=>f σ k
 |_=>d
def jn {ρ α:Type} (f:α->Option ρ) (x:α):Option ρ:=f x
def evA(f:An ρ->Kw ρ):An ρ->Kw ρ
 |.co cs a=>λσ k=>norm T cs σ λσ'=>evA f a σ' k
 |.join sh cs a=>λσ k=>evA f a σ λe σ'=>match e with
  |.normal=>enter T sh cs σ' (jn λx=>k .normal (sh.enc x))
  |e=>k e σ'
 |an=>f an
def goK(J:Code->Nat->An ρ->Kw ρ)(a:Code)(k:K ρ)(l0:Nat)(sh:Sh)(c:List Co)(l2:Nat)(b2:An ρ)(g:sh.X->Option ρ):K ρ:=λe σ'=>match e with
 |.goto l=>match vF l l0 with
  |true=>enter T sh c σ' g
  |false=>match vF l l2 with
   |true=>J a l2 b2 σ' λe σ2=>match e with
    |.goto _=>none
    |e=>k e σ2
   |false=>none
 |e=>k e σ'
def yLe (J : Code -> Nat -> An ρ -> Kw ρ) (a : Code) (f : An ρ -> Kw ρ) : An ρ -> Kw ρ
  | .scope l0 a0 (.loop sh c0 c1 n (.scope l2 b b2)) => fun σ k => evA T f a0 σ (goK T J a k l0 sh c0 l2 b2 (fix (fun g x => J a l0 b (sh.enc x) (goK T J a k l0 sh c1 l2 b2 g)) n))
  | an => fun σ k => Hl an σ k (evA T f an.l σ fun e σ' => match e with
      | .goto l => match an with
        | .scope l0 _ b => match vF l l0 with
          | true => J a l0 b σ' fun e σ2 => match e with
            | .goto _ => none
            | e => k e σ2
          | false => none
        | _ => none
      | e => k e σ')
def evG(J:Code->Nat->An ρ->Kw ρ):Code->An ρ->St->K ρ->Option ρ
 |.skip,an,σ,k=>Hl an σ k (k .normal σ)
 |.region _ ops d,an,σ,k=>Hl an σ k (match d with
  |false=>Ez Γ T ops ops.toList σ k
  |true=>zYd Γ T ops σ k)
 |.seq a b,an,σ,k=>Hl an σ k (evA T (evG J a) an.l σ λe σ'=>match e with
  |.normal=>norm T an.c σ' λσ2=>evA T (evG J b) an.r σ2 k
  |e=>k e σ')
 |.cond c a b,an,σ,k=>Hl an σ k (match ovl σ c with
  |.one (.val .bool t)=>br t (evA T (evG J a) an.l σ k) (evA T (evG J b) an.r σ k)
  |_=>none)
 |.block id a,an,σ,k=>Hl an σ k (evA T (evG J a) an.l σ λe σ'=>match e with
  |.normal=>norm T an.c σ' (k .normal)
  |.exit i=>match vF i id with
   |true=>norm T an.c σ' (k .normal)
   |false=>k (.exit i) σ'
  |e=>k e σ')
 |.scope a,an,σ,k=>yLe T J a (evG J a) an σ k
 |.loop b,an,σ,k=>Hl an σ k (match an with
  |.loop sh c0 c1 n a=>enter T sh c0 σ λx=>fix (λg x=>evA T (evG J b) a (sh.enc x) λe σ'=>match e with
   |.normal=>enter T sh c1 σ' g
   |e=>k e σ') n x
  |_=>none)
 |.exit id,an,σ,k=>Hl an σ k (k (.exit id) σ)
 |.goto l,an,σ,k=>Hl an σ k (k (.goto l) σ)
 |.label _,an,σ,k=>Hl an σ k (k .normal σ)
 |.ret,an,σ,k=>Hl an σ k (k .ret σ)
 |_,an,σ,k=>Hl an σ k none
def ev0 (c:Code) (an:An ρ):Kw ρ:=evA T (evG Γ T (fun _ _ _ _ _=>none) c) an
def yOq(a:Code)(l:Nat)(an:An ρ):Kw ρ:=λσ k =>
 match findLabel a l with
 |some rest =>
  match an.plain with
  |true=>ev0 Γ T rest an σ k
  |false=>none
 |none=>none
def ev (c:Code) (an:An ρ):Kw ρ:=evA T (evG Γ T (yOq Γ T) c) an
end ev
def Wx(P:Program)(kf:Nat){ρ:Type}(c:Code)(f:Kw ρ):Prop:=∀ (σ:St) (k:K ρ) (r:ρ),f σ k=some r->∀ (C:Ctx) (β:Nat->Pl) (a:Act) (w:World) (Q:Exit->Act->World->Prop),C.P=P->C.fix.length<=kf->Sim C β σ a w ->
 (∀ e x σ' β' a' w',Sim C β' σ' a' w'->Nc β' w' (C.N β' σ'.h) e x->k e σ'=some r->Q x a' w')->c.wp P Q a w
def zX {ρ:Type} (f:An ρ->Prop):An ρ->Prop | .co _ a=>zX f a | .join _ _ a=>zX f a | an=>f an
def AnG (P:Program) (kf:Nat) {ρ:Type}:Code->An ρ->Prop | c,.sem f=>Wx P kf c f | .seq a b,an=>zX (AnG P kf a) an.l ∧ zX (AnG P kf b) an.r | .cond _ a b,an=>zX (AnG P kf a) an.l ∧ zX (AnG P kf b) an.r | .block _ a,an=>zX (AnG P kf a) an.l | .scope a,an=>zX (AnG P kf a) an.l | .loop b,.loop _ _ _ _ a=>zX (AnG P kf b) a | _,_=>True
def zRu (P:Program) (kf:Nat) {ρ:Type} (c:Code) (an:An ρ):Prop:=zX (AnG P kf c) an
section sound
variable {ρ:Type}{Γ:Orc ρ}{T:Tab}{P:Program}
theorem lQ{an:An ρ}{σ:St}{k:K ρ}{d:Option ρ}{r:ρ}(h:Hl an σ k d=some r):(∃ f,an=.sem f/\f σ k=some r)\/((∀ f,an≠.sem f)/\d=some r):=by
 cases an with
 |sem f=>exact .inl ⟨f,rfl,h⟩
 |nil=>exact .inr ⟨by simp,h⟩
 |mk l r c=>exact .inr ⟨by simp,h⟩
 |loop sh c0 c1 n a=>exact .inr ⟨by simp,h⟩
 |scope l a b=>exact .inr ⟨by simp,h⟩
 |co c a=>exact .inr ⟨by simp,h⟩
 |join sh c a=>exact .inr ⟨by simp,h⟩
theorem AnG.sem{kf:Nat}{c:Code}{f:Kw ρ}(h:AnG P kf c (.sem f)):Wx P kf c f:=by
 cases c<;>exact h
theorem yTa{kf:Nat}(hT:bU P T)(hΓ:kW P Γ)(id:Nat)(ops:Array Oper):Wx P kf (.region id ops false) (λσ k=>Ez Γ T ops ops.toList σ k):=by
 intro σ k r h C β a w Q hP _ hs hq;subst hP;refine wp_region ?_;rw[show List.range ops.size=List.range' 0 ops.toList.length by simp[List.range_eq_range'],wpOps_eq_wpList ops.toList 0 (by simp)];exact Fa hT hΓ hq ops.toList β σ a w h hs
theorem Fb{C:Ctx}{β:Nat->Pl}{σ:St}{a:Act}{w:World}{sh:Sh}{co:List Co}{g:sh.X->Option ρ}{r:ρ}(hT:bU C.P T){kf:Nat}(hkf:C.fix.length<=kf)(hfx:dF (Co.fx kf) co=true)(h:enter T sh co σ g=some r)(hs:Sim C β σ a w):∃ (β':Nat->Pl) (_σ':St) (x:sh.X),Sim C β' (sh.enc x) a w/\g x=some r:=by
 obtain⟨β2,σ2,hs2,hk2⟩:=Qh hT hkf hfx h hs;split at hk2
 ·rename_i x hx;exact⟨β2,σ2,x,zNw hx hs2,hk2⟩
 ·cases hk2
theorem oC(hT:bU P T){kf:Nat}{c:Code}{f:An ρ->Kw ρ}{Q:An ρ->Prop}(hf:∀ an,Q an->an.fx kf=true->Wx P kf c (f an)):∀ an,zX Q an->an.fx kf=true->Wx P kf c (evA T f an)
 |.co cs a,ha,hx=>by
  simp only[An.fx,aD]at hx;intro σ k r h C β ac w R hP hkf hs hq;obtain⟨β',σ',hs',hk⟩:=Qh (hP ▸ hT:bU C.P T) hkf hx.1 h hs;exact oC hT hf a ha hx.2 σ' k r hk C β' ac w R hP hkf hs' hq
 |.join sh cs a,ha,hx=>by
  simp only[An.fx,aD]at hx;intro σ k r h C β ac w R hP hkf hs hq;refine oC hT hf a ha hx.2 σ _ r h C β ac w R hP hkf hs ?_;intro e x σ' β' a' w' hs' hxr hk;cases e with
  |normal =>
   obtain⟨β2,σ2,x2,hs2,hk2⟩:=Fb (hP ▸ hT:bU C.P T) hkf hx.1 hk hs';exact hq .normal x (sh.enc x2) β2 a' w' hs2 hxr hk2
  |exit i=>exact hq (.exit i) x σ' β' a' w' hs' hxr hk
  |goto l=>exact hq (.goto l) x σ' β' a' w' hs' hxr hk
  |ret=>exact hq .ret x σ' β' a' w' hs' hxr hk
  |pan t v=>exact hq (.pan t v) x σ' β' a' w' hs' hxr hk
 |.nil,ha,hx=>hf _ ha hx
 |.mk ..,ha,hx=>hf _ ha hx
 |.loop ..,ha,hx=>hf _ ha hx
 |.scope ..,ha,hx=>hf _ ha hx
 |.sem ..,ha,hx=>hf _ ha hx
theorem An.yEx{kf:Nat}{an:An ρ}(h:an.fx kf=true):an.l.fx kf=true:=by
 cases an<;>simp_all[An.fx,An.l]
theorem An.xFc{kf:Nat}{an:An ρ}(h:an.fx kf=true):an.r.fx kf=true:=by
 cases an<;>simp_all[An.fx,An.r]
theorem An.yXe{kf:Nat}{an:An ρ}(h:an.fx kf=true):dF (Co.fx kf) an.c=true:=by
 cases an<;>simp_all[An.fx,An.c,dF]
theorem sO{kf:Nat}{J:Code->Nat->An ρ->Kw ρ}(hT:bU P T)(hΓ:kW P Γ)(hm:P.follows .mixedOrders=true)(hJ:∀ a l an,(∀ rest,findLabel a l=some rest->an.fx kf=true->Wx P kf rest (J a l an))/\(findLabel a l=none->∀ σ k r,J a l an σ k≠some r)):∀ (c:Code) (an:An ρ),AnG P kf c an->an.fx kf=true->Wx P kf c (evG Γ T J c an)
 |.skip,an,ha,hfx=>by
  intro σ k r h C β a w Q hP hkf hs hq;rcases lQ h with ⟨f,rfl,hf⟩|⟨_,hd⟩
  ·exact(AnG.sem ha) σ k r hf C β a w Q hP hkf hs hq
  ·exact wp_skip (hq .normal .normal σ β a w hs rfl hd)
 |.region id ops d,an,ha,hfx=>by
  intro σ k r h C β a w Q hP hkf hs hq;rcases lQ h with ⟨f,rfl,hf⟩|⟨_,hd⟩
  ·exact(AnG.sem ha) σ k r hf C β a w Q hP hkf hs hq
  ·cases d with
   |false=>exact yTa hT hΓ id ops σ k r hd C β a w Q hP hkf hs hq
   |true =>
    subst hP;exact yXb hT hΓ hm hq hd hs
 |.seq x y,an,ha,hfx=>by
  intro σ k r h C β a w Q hP hkf hs hq;rcases lQ h with ⟨f,rfl,hf⟩|⟨hne,hd⟩
  ·exact(AnG.sem ha) σ k r hf C β a w Q hP hkf hs hq
  ·have ha':zX (AnG P kf x) an.l/\zX (AnG P kf y) an.r:=by cases an<;>first|exact absurd rfl (hne _)|exact ha
   refine wp_seq (oC hT (sO hT hΓ hm hJ x) an.l ha'.1 (An.yEx hfx) σ _ r hd C β a w _ hP hkf hs ?_);intro e ex σ' β' a' w' hs' hx hk;cases e with
   |normal =>
    obtain rfl:=hx;obtain⟨β2,σ2,hs2,hk2⟩:=Qh (hP ▸ hT:bU C.P T) hkf (An.yXe hfx) hk hs';exact oC hT (sO hT hΓ hm hJ y) an.r ha'.2 (An.xFc hfx) σ2 k r hk2 C β2 a' w' Q hP hkf hs2 hq
   |exit i=>obtain rfl:=hx;exact hq (.exit i) _ σ' β' a' w' hs' rfl hk
   |goto l=>obtain rfl:=hx;exact hq (.goto l) _ σ' β' a' w' hs' rfl hk
   |ret=>obtain rfl:=hx;exact hq .ret _ σ' β' a' w' hs' rfl hk
   |pan t v=>have hx':=hx;obtain⟨z,rfl,_⟩:=hx;exact hq (.pan t v) _ σ' β' a' w' hs' hx' hk
 |.cond c x y,an,ha,hfx=>by
  intro σ k r h C β a w Q hP hkf hs hq;rcases lQ h with ⟨f,rfl,hf⟩|⟨hne,hd⟩
  ·exact(AnG.sem ha) σ k r hf C β a w Q hP hkf hs hq
  ·have ha':zX (AnG P kf x) an.l/\zX (AnG P kf y) an.r:=by cases an<;>first|exact absurd rfl (hne _)|exact ha
   split at hd
   ·rename_i t ht;have hc:=bE hs c;rw[ht]at hc;simp only[V.Rel,L.Rel,Ty.Rel,aL,and_true]at hc;rcases Xt hd with ⟨rfl,h1⟩|⟨rfl,h1⟩
    ·exact wp_cond_true hc (oC hT (sO hT hΓ hm hJ x) an.l ha'.1 (An.yEx hfx) σ k r h1 C β a w Q hP hkf hs hq)
    ·exact wp_cond_false hc (oC hT (sO hT hΓ hm hJ y) an.r ha'.2 (An.xFc hfx) σ k r h1 C β a w Q hP hkf hs hq)
   ·cases hd
 |.block id x,an,ha,hfx=>by
  intro σ k r h C β a w Q hP hkf hs hq;rcases lQ h with ⟨f,rfl,hf⟩|⟨hne,hd⟩
  ·exact(AnG.sem ha) σ k r hf C β a w Q hP hkf hs hq
  ·have ha':zX (AnG P kf x) an.l:=by cases an<;>first|exact absurd rfl (hne _)|exact ha
   refine wp_block (oC hT (sO hT hΓ hm hJ x) an.l ha' (An.yEx hfx) σ _ r hd C β a w _ hP hkf hs ?_);intro e ex σ' β' a' w' hs' hx hk;cases e with
   |normal =>
    obtain rfl:=hx;obtain⟨β2,σ2,hs2,hk2⟩:=Qh (hP ▸ hT:bU C.P T) hkf (An.yXe hfx) hk hs';exact hq .normal .normal σ2 β2 a' w' hs2 rfl hk2
   |exit i =>
    obtain rfl:=hx;simp only at hk;split at hk
    ·rename_i hb;have hb:=aP hb;subst hb;obtain⟨β2,σ2,hs2,hk2⟩:=Qh (hP ▸ hT:bU C.P T) hkf (An.yXe hfx) hk hs';simp only[Exit.inBlock,if_true];exact hq .normal .normal σ2 β2 a' w' hs2 rfl hk2
    ·rename_i hb;have hne:i≠id:=λe=>by rw[e,Nat.beq_refl]at hb;cases hb
     simp only[Exit.inBlock,hne,if_false];exact hq (.exit i) _ σ' β' a' w' hs' rfl hk
   |goto l=>obtain rfl:=hx;exact hq (.goto l) _ σ' β' a' w' hs' rfl hk
   |ret=>obtain rfl:=hx;exact hq .ret _ σ' β' a' w' hs' rfl hk
   |pan t v=>have hx':=hx;obtain⟨z,rfl,_⟩:=hx;exact hq (.pan t v) _ σ' β' a' w' hs' hx' hk
 |.scope x,an,ha,hfx=>by
  intro σ k r h C β a w Q hP hkf hs hq;simp only[evG]at h;unfold yLe at h;split at h
  ·rename_i l0 a0 sh c0 c1 n l2 b b2;have hT':bU C.P T:=hP ▸ hT;have hx:=hfx;simp only[An.fx,aD]at hx;obtain⟨hxa,xKu,xKv,hxb,xKw⟩:=hx;have ha':zX (AnG P kf x) a0:=ha;have go:∀ {m:Nat}{co:List Co}{g:sh.X->Option ρ}{e:Ex}{ex:Exit}{σ':St}{β':Nat->Pl}{a':Act}{w':World},dF (Co.fx kf) co=true ->
    Sim C β' σ' a' w'->Nc β' w' (C.N β' σ'.h) e ex->goK T J x k l0 sh co l2 b2 g e σ'=some r->(∀ y,g y=some r->fix (λg y=>J x l0 b (sh.enc y) (goK T J x k l0 sh c1 l2 b2 g)) m y=some r) ->
    zVa (λl a w=>∃ m',m'<m+2/\((l=l0/\0<m'/\∃ β y,Sim C β (sh.enc y) a w/\fix (λg y=>J x l0 b (sh.enc y) (goK T J x k l0 sh c1 l2 b2 g)) (m'-1) y=some r) \/
     (l=l2/\∃ β σ,Sim C β σ a w/\(J x l2 b2 σ λe σ2=>match e with|.goto _=>none|e=>k e σ2)=some r))) Q ex a' w':=by
    intro m co g e ex σ' β' a' w' hco hs' hx hk hg;cases e with
    |normal=>obtain rfl:=hx;exact hq .normal _ σ' β' a' w' hs' rfl hk
    |exit i=>obtain rfl:=hx;exact hq (.exit i) _ σ' β' a' w' hs' rfl hk
    |goto l =>
     obtain rfl:=hx;simp only[goK]at hk;split at hk
     ·rename_i hb;obtain⟨β2,σ2,y,hs2,hk2⟩:=Fb hT' hkf hco hk hs';exact⟨m+1,by omega,.inl ⟨aP hb,by omega,β2,y,hs2,hg y hk2⟩⟩
     ·split at hk
      ·rename_i hb;exact⟨0,by omega,.inr ⟨aP hb,β',σ',hs',hk⟩⟩
      ·cases hk
    |ret=>obtain rfl:=hx;exact hq .ret _ σ' β' a' w' hs' rfl hk
    |pan t v=>have hx':=hx;obtain⟨z,rfl,_⟩:=hx;exact hq (.pan t v) _ σ' β' a' w' hs' hx' hk
   have weak:∀ {m:Nat}{ex:Exit}{a':Act}{w':World}{J1:Nat->Nat->Act->World->Prop},zVa (λl a w=>∃ m',m'<m/\J1 m' l a w) Q ex a' w'->zVa (λl a w=>∃ m',J1 m' l a w) Q ex a' w':=by
    intro m ex a' w' J1 h;cases ex with
    |goto l=>obtain⟨m',_,h⟩:=h;exact⟨m',h⟩
    |normal=>exact h
    |exit i=>exact h
    |ret=>exact h
    |panic c=>exact h
    |outgrown=>exact h
   refine zYe (λm' l a w=>(l=l0/\0<m'/\∃ β y,Sim C β (sh.enc y) a w/\fix (λg y=>J x l0 b (sh.enc y) (goK T J x k l0 sh c1 l2 b2 g)) (m'-1) y=some r) \/
    (l=l2/\∃ β σ,Sim C β σ a w/\(J x l2 b2 σ λe σ2=>match e with|.goto _=>none|e=>k e σ2)=some r)) ?_ ?_
   ·refine oC hT (sO hT hΓ hm hJ x) a0 ha' hxa σ _ r h C β a w _ hP hkf hs ?_;intro e ex σ' β' a' w' hs' hx hk;exact weak (go xKu hs' hx hk (λy hy=>hy))
   ·rintro m l a1 w1 (⟨rfl,hm0,β1,y,hs1,h1⟩|⟨rfl,β1,σ1,hs1,h1⟩)
    ·obtain⟨m,rfl⟩:∃ m2,m=m2+1:=⟨m-1,by omega⟩;simp only[Nat.add_sub_cancel]at h1;cases m with
     |zero=>cases h1
     |succ m =>
      simp only[fix]at h1;cases hfl:findLabel x l with
      |none=>exact absurd h1 ((hJ x l b).2 hfl _ _ _)
      |some rest =>
       refine⟨rest,rfl,?_⟩;refine(hJ x l b).1 rest hfl hxb _ _ r h1 C β1 a1 w1 _ hP hkf hs1 ?_;intro e ex σ' β' a' w' hs' hx hk;exact go xKv hs' hx hk (λy hy=>hy)
    ·cases hfl:findLabel x l with
     |none=>exact absurd h1 ((hJ x l b2).2 hfl _ _ _)
     |some rest =>
      refine⟨rest,rfl,?_⟩;refine(hJ x l b2).1 rest hfl xKw σ1 _ r h1 C β1 a1 w1 _ hP hkf hs1 ?_;intro e ex σ' β' a' w' hs' hx hk;cases e with
      |normal=>obtain rfl:=hx;exact hq .normal _ σ' β' a' w' hs' rfl hk
      |exit i=>obtain rfl:=hx;exact hq (.exit i) _ σ' β' a' w' hs' rfl hk
      |goto l=>cases hk
      |ret=>obtain rfl:=hx;exact hq .ret _ σ' β' a' w' hs' rfl hk
      |pan t v=>have hx':=hx;obtain⟨z,rfl,_⟩:=hx;exact hq (.pan t v) _ σ' β' a' w' hs' hx' hk
  rcases lQ h with ⟨f,rfl,hf⟩|⟨hne,hd⟩
  ·exact(AnG.sem ha) σ k r hf C β a w Q hP hkf hs hq
  ·have ha':zX (AnG P kf x) an.l:=by cases an<;>first|exact absurd rfl (hne _)|exact ha
   by_cases hsc:∃ l0 x' b rest,an=.scope l0 x' b/\findLabel x l0=some rest
   ·obtain⟨l0,x',b,rest,rfl,hfl⟩:=hsc;refine wp_scope_jumps l0 (λa' w'=>∃ β' σ',Sim C β' σ' a' w'/\(J x l0 b σ' λe σ2=>match e with|.goto _=>none|e=>k e σ2)=some r) (λ_ _=>0) hfl ?_ ?_
    ·refine oC hT (sO hT hΓ hm hJ x) _ ha' (An.yEx hfx) σ _ r hd C β a w _ hP hkf hs ?_;intro e ex σ' β' a' w' hs' hx hk;cases e with
     |normal=>obtain rfl:=hx;exact hq .normal _ σ' β' a' w' hs' rfl hk
     |exit i=>obtain rfl:=hx;exact hq (.exit i) _ σ' β' a' w' hs' rfl hk
     |goto l =>
      obtain rfl:=hx;simp only at hk;split at hk
      ·rename_i hb;exact⟨aP hb,β',σ',hs',hk⟩
      ·cases hk
     |ret=>obtain rfl:=hx;exact hq .ret _ σ' β' a' w' hs' rfl hk
     |pan t v=>have hx':=hx;obtain⟨z,rfl,_⟩:=hx;exact hq (.pan t v) _ σ' β' a' w' hs' hx' hk
    ·rintro a1 w1 ⟨β1,σ1,hs1,h1⟩;refine(hJ x l0 b).1 rest hfl (by simp only[An.fx,aD]at hfx;exact hfx.2) σ1 _ r h1 C β1 a1 w1 _ hP hkf hs1 ?_;intro e ex σ' β' a' w' hs' hx hk;cases e with
     |normal=>obtain rfl:=hx;exact hq .normal _ σ' β' a' w' hs' rfl hk
     |exit i=>obtain rfl:=hx;exact hq (.exit i) _ σ' β' a' w' hs' rfl hk
     |goto l=>cases hk
     |ret=>obtain rfl:=hx;exact hq .ret _ σ' β' a' w' hs' rfl hk
     |pan t v=>have hx':=hx;obtain⟨z,rfl,_⟩:=hx;exact hq (.pan t v) _ σ' β' a' w' hs' hx' hk
   ·refine wp_scope_straight (oC hT (sO hT hΓ hm hJ x) an.l ha' (An.yEx hfx) σ _ r hd C β a w _ hP hkf hs ?_);intro e ex σ' β' a' w' hs' hx hk;cases e with
    |normal=>obtain rfl:=hx;exact hq .normal _ σ' β' a' w' hs' rfl hk
    |exit i=>obtain rfl:=hx;exact hq (.exit i) _ σ' β' a' w' hs' rfl hk
    |goto l =>
     exfalso;simp only at hk;split at hk
     ·rename_i l0 x' b _;split at hk
      ·cases hfl:findLabel x l0 with
       |none=>exact(hJ x l0 b).2 hfl _ _ _ hk
       |some rest=>exact hsc ⟨l0,x',b,rest,rfl,hfl⟩
      ·cases hk
     ·cases hk
    |ret=>obtain rfl:=hx;exact hq .ret _ σ' β' a' w' hs' rfl hk
    |pan t v=>have hx':=hx;obtain⟨z,rfl,_⟩:=hx;exact hq (.pan t v) _ σ' β' a' w' hs' hx' hk
 |.loop x,an,ha,hfx=>by
  intro σ k r h C β a w Q hP hkf hs hq;rcases lQ h with ⟨f,rfl,hf⟩|⟨hne,hd⟩
  ·exact(AnG.sem ha) σ k r hf C β a w Q hP hkf hs hq
  ·cases an with
   |loop sh c0 c1 n an' =>
    have ha':zX (AnG P kf x) an':=ha;simp only[An.fx,aD]at hfx;have hT':bU C.P T:=hP ▸ hT;refine wp_loop_rounds n ?_;obtain⟨β1,σ1,x1,hs1,h1⟩:=Fb hT' hkf hfx.1 hd hs;clear hd hs h hne ha;revert x1 β1 a w;induction n with
    |zero=>intro a w β1 x1 _ h;cases h
    |succ n ih =>
     intro a w β1 x1 hs1 h1;rw[rounds_succ];refine oC hT (sO hT hΓ hm hJ x) an' ha' hfx.2.2 _ _ r h1 C β1 a w _ hP hkf hs1 ?_;intro e ex σ' β' a' w' hs' hx hk;cases e with
     |normal =>
      obtain rfl:=hx;obtain⟨β2,σ2,x2,hs2,hk2⟩:=Fb hT' hkf hfx.2.1 hk hs';exact ih a' w' β2 x2 hs2 hk2
     |exit i=>obtain rfl:=hx;exact hq (.exit i) _ σ' β' a' w' hs' rfl hk
     |goto l=>obtain rfl:=hx;exact hq (.goto l) _ σ' β' a' w' hs' rfl hk
     |ret=>obtain rfl:=hx;exact hq .ret _ σ' β' a' w' hs' rfl hk
     |pan t v=>have hx':=hx;obtain⟨z,rfl,_⟩:=hx;exact hq (.pan t v) _ σ' β' a' w' hs' hx' hk
   |_=>cases hd
 |.exit id,an,ha,hfx=>by
  intro σ k r h C β a w Q hP hkf hs hq;rcases lQ h with ⟨f,rfl,hf⟩|⟨_,hd⟩
  ·exact(AnG.sem ha) σ k r hf C β a w Q hP hkf hs hq
  ·exact wp_exit (hq (.exit id) _ σ β a w hs rfl hd)
 |.goto l,an,ha,hfx=>by
  intro σ k r h C β a w Q hP hkf hs hq;rcases lQ h with ⟨f,rfl,hf⟩|⟨_,hd⟩
  ·exact(AnG.sem ha) σ k r hf C β a w Q hP hkf hs hq
  ·exact wp_goto (hq (.goto l) _ σ β a w hs rfl hd)
 |.label l,an,ha,hfx=>by
  intro σ k r h C β a w Q hP hkf hs hq;rcases lQ h with ⟨f,rfl,hf⟩|⟨_,hd⟩
  ·exact(AnG.sem ha) σ k r hf C β a w Q hP hkf hs hq
  ·exact wp_label (hq .normal _ σ β a w hs rfl hd)
 |.ret,an,ha,hfx=>by
  intro σ k r h C β a w Q hP hkf hs hq;rcases lQ h with ⟨f,rfl,hf⟩|⟨_,hd⟩
  ·exact(AnG.sem ha) σ k r hf C β a w Q hP hkf hs hq
  ·exact wp_ret (hq .ret _ σ β a w hs rfl hd)
 |.rangeFunc g ps x y,an,ha,hfx=>by
  intro σ k r h C β a w Q hP hkf hs hq;rcases lQ h with ⟨f,rfl,hf⟩|⟨_,hd⟩
  ·exact(AnG.sem ha) σ k r hf C β a w Q hP hkf hs hq
  ·cases hd
 |.refuse why,an,ha,hfx=>by
  intro σ k r h C β a w Q hP hkf hs hq;rcases lQ h with ⟨f,rfl,hf⟩|⟨_,hd⟩
  ·exact(AnG.sem ha) σ k r hf C β a w Q hP hkf hs hq
  ·cases hd
theorem An.zOb{ρ:Type}{an:An ρ}(h:an.plain=true):an.l.plain=true:=by
 cases an<;>simp_all[An.plain,An.l]
theorem An.yLf{ρ:Type}{an:An ρ}(h:an.plain=true):an.r.plain=true:=by
 cases an<;>simp_all[An.plain,An.r]
theorem Cy{Q:An ρ->Prop}(h:∀ an:An ρ,an.plain=true->Q an):∀ an:An ρ,an.plain=true->zX Q an
 |.co _ a,hp=>Cy h a hp
 |.join _ _ a,hp=>Cy h a hp
 |.nil,hp=>h _ hp
 |.mk ..,hp=>h _ hp
 |.loop ..,hp=>h _ hp
 |.scope ..,hp=>h _ hp
 |.sem _,hp=>by cases hp
theorem Lr{kf:Nat}:∀ (c:Code) (an:An ρ),an.plain=true->AnG P kf c an
 |.seq a b,an,h=>by
  have:=And.intro (Cy (Lr (kf:=kf) a) an.l (An.zOb h)) (Cy (Lr (kf:=kf) b) an.r (An.yLf h));cases an<;>first|(cases h;done)|exact this
 |.cond _ a b,an,h=>by
  have:=And.intro (Cy (Lr (kf:=kf) a) an.l (An.zOb h)) (Cy (Lr (kf:=kf) b) an.r (An.yLf h));cases an<;>first|(cases h;done)|exact this
 |.block _ a,an,h=>by
  have:=Cy (Lr (kf:=kf) a) an.l (An.zOb h);cases an<;>first|(cases h;done)|exact this
 |.scope a,an,h=>by
  have:=Cy (Lr (kf:=kf) a) an.l (An.zOb h);cases an<;>first|(cases h;done)|exact this
 |.loop b,an,h=>by
  cases an with
  |loop sh c0 c1 n a=>exact Cy (Lr (kf:=kf) b) a h
  |sem f=>cases h
  |_=>trivial
 |.skip,an,h=>by cases an<;>first|(cases h;done)|trivial
 |.region ..,an,h=>by cases an<;>first|(cases h;done)|trivial
 |.exit _,an,h=>by cases an<;>first|(cases h;done)|trivial
 |.goto _,an,h=>by cases an<;>first|(cases h;done)|trivial
 |.label _,an,h=>by cases an<;>first|(cases h;done)|trivial
 |.ret,an,h=>by cases an<;>first|(cases h;done)|trivial
 |.rangeFunc ..,an,h=>by cases an<;>first|(cases h;done)|trivial
 |.refuse _,an,h=>by cases an<;>first|(cases h;done)|trivial
theorem aF{kf:Nat}(c:Code)(an:An ρ)(h:an.plain=true):zRu P kf c an:=Cy (Lr c) an h
theorem yTb{kf:Nat}(hT:bU P T)(hΓ:kW P Γ)(hm:P.follows .mixedOrders=true)(c:Code)(an:An ρ)(ha:zRu P kf c an)(hfx:an.fx kf=true):Wx P kf c (ev0 Γ T c an):=
 oC hT (sO hT hΓ hm (λ_ _ _=>⟨λ_ _ _ σ k r h=>(by cases h),λ_ σ k r h=>(by cases h)⟩) c) an ha hfx
theorem zHa{kf:Nat}(hT:bU P T)(hΓ:kW P Γ)(hm:P.follows .mixedOrders=true)(c:Code)(an:An ρ)(ha:zRu P kf c an)(hfx:an.fx kf=true):Wx P kf c (ev Γ T c an):=by
 refine oC hT (sO hT hΓ hm (λa l an'=>⟨λrest hf hx σ k r h=>?_,λhf σ k r h=>?_⟩) c) an ha hfx
 ·unfold yOq at h;rw[hf]at h;simp only at h;split at h
  ·rename_i hp;exact yTb hT hΓ hm rest an' (aF rest an' hp) hx σ k r h
  ·cases h
 ·unfold yOq at h;rw[hf]at h;cases h
def L.deep(h:List Ob):L->Option (Bool × L)
 |.val t x=>some (true,.val t x)
 |.jC=>some (true,.jC)
 |.aZ=>some (true,.aZ)
 |.rJ t x off=>some (true,.rJ t x off)
 |.own id ver =>
  match h[id]? with
  |some (.arr _ t v rows _)=>some (vF v ver,.val (.slice t) rows)
  |_=>none
 |.sl id ver off len =>
  match h[id]? with
  |some (.arr _ t v rows _)=>some (vF v ver&&Nat.ble (off+len) rows.length,.val (.slice t) ((rows.drop off).take len))
  |_=>none
 |.clo f []=>some (true,.clo f [])
 |_=>none
def zHb(h:List Ob):List L->Option (Bool × List L)
 |[]=>some (true,[])
 |l::ls =>
  match l.deep h,zHb h ls with
  |some (c,x),some (d,r)=>some (c&&d,x::r)
  |_,_=>none
def V.deep(h:List Ob):V->Option (Bool × V)
 |.one l=>match l.deep h with
  |some (c,x)=>some (c,.one x)
  |none=>none
 |.agg ls=>match zHb h ls with
  |some (c,x)=>some (c,.agg x)
  |none=>none
 |_=>none
def yOr(T:Tab)(σ:St):ResultVar->Option (Bool × Sum L (List L))
 |.tmp t =>
  match (σ.r.getD t .cK).deep σ.h with
  |some (c,.one l)=>some (c,.inl l)
  |some (c,.agg ls)=>some (c,.inr ls)
  |_=>none
 |.cell t ty =>
  match σ.r.getD t .cK with
  |.one l =>
   match loadAt T σ.h ty l with
   |some (c,v)=>
    match v.deep σ.h with
    |some (d,.one l)=>some (c&&d,.inl l)
    |some (d,.agg ls)=>some (c&&d,.inr ls)
    |_=>none
   |none=>none
  |_=>none
def zOc(T:Tab)(σ:St):List ResultVar->Option (Bool × List (Sum L (List L)))
 |[]=>some (true,[])
 |x::r =>
  match yOr T σ x,zOc T σ r with
  |some (c,l),some (d,ls)=>some (c&&d,l::ls)
  |_,_=>none
def yXf:List (Sum L (List L))->V | [.inl l] => .one l | [.inr ls] => .agg ls | vs => .tup vs
end sound
end Go.Dec
namespace Go.Dec
section
variable {T:Tab}{C:Ctx}{β β':Nat->Pl}{w:World}
theorem L.xCk{N N':Nat->Nat->Prop}(hN:∀ b j,b<w.heap.size->N' b j->N b j):∀ {l:L}{cs:List Value},l.isD=true->l.Rel β w N cs->l.Rel β' w N' cs
 |.val t x,cs,_,h=>by simp only[L.Rel]at *;exact h.mono (Keep.refl _ w) hN
 |.jC,cs,_,h=>by simp only[L.Rel]at *;exact h
 |.aZ,cs,_,h=>by simp only[L.Rel]at *;exact h
 |.rJ t x off,cs,_,h=>by simp only[L.Rel]at *;obtain⟨c,hc,hr⟩:=h;exact⟨c,hc,hr.mono (Keep.refl _ w) hN⟩
 |.clo f [],cs,_,h=>by simp only[L.Rel,L.eG]at *;exact h
 |.clo f (_::_),_,hd,_=>by simp[L.isD]at hd
 |.ptr ..,_,hd,_=>by simp[L.isD]at hd
 |.sK ..,_,hd,_=>by simp[L.isD]at hd
 |.jD ..,_,hd,_=>by simp[L.isD]at hd
 |.sl ..,_,hd,_=>by simp[L.isD]at hd
 |.own ..,_,hd,_=>by simp[L.isD]at hd
 |.bad _,_,hd,_=>by simp[L.isD]at hd
 |.fD ..,_,hd,_=>by simp[L.isD]at hd
theorem yEy{h:List Ob}{e:TypeId}{t:Ty}{ver id off len:Nat}{rows:List t.den}{wr:Bool}{c:Value}{N':Nat->Nat->Prop}(hh:fC C β h w)(ho:h[id]?=some (.arr e t ver rows wr))(hsl:eP (β id) off len c)(hle:off+len<=rows.length)(hN:∀ b j,b<w.heap.size->N' b j->C.N0 b j):(Ty.slice t).Rel w N' ((rows.drop off).take len) [c]:=by
 have hob:=hh.obj _ _ ho;simp only[Ob.Rel]at hob;obtain⟨_,_,hpv,hpz,hpos,hpl,hob⟩:=hob;simp only[Ty.Rel];refine⟨c,rfl,?_⟩;unfold eP at hsl;rcases hob with ⟨hnb,hr0,_⟩|⟨b,cur,css,hb,hheap,hall,htake,hcap,hrc,hm⟩
 ·rw[hnb]at hsl;subst hr0;exact .inl ⟨hsl.1,by simp⟩
 ·rw[hb]at hsl;obtain⟨h1,o,rfl,h3⟩:=hsl;obtain⟨hf1,hf2,_⟩:=hh.fresh _ _ _ ho hb;have hlen:((rows.drop off).take len).length=len:=by simp;omega
  have hl:=jO hall;have hcs:=(Cells.of_heap hheap).take (rows.length*t.size);rw[htake]at hcs;have hcs2:=(hcs.drop (off*t.size)).take (len*t.size);rw[pF css hl off,sJ _ (λc hc=>hl c (qDn hc)) len,yY]at hcs2;have hN0:∀ b j,b<w.heap.size->N' b j->C.N β h b j:=λb j hb hn=>.inl (hN b j hb hn)
  have yCy:bJ (λx c=>t.Rel w N' x c) ((rows.drop off).take len) ((css.drop off).take len):=((hall.drop off).take len).mono λ_ _ h=>h.mono (Keep.refl _ w) hN0
  refine .inr (.inl ⟨b,o,_,(css.drop off).take len,by rw[hlen],hf2,λj _ _ hn=>hf1 j (hN b j hf2 hn),by omega,by omega,yCy,λc hc=>hl c (qDn (List.mem_of_mem_take hc)),?_⟩);rcases h3 with h3|⟨h3,_⟩
  ·rw[h3,hpz];exact hcs2
  ·have hl0:len=0:=by omega
   subst hl0;simpa using Cells.nil
theorem L.Fe{h:List Ob}{l l':L}{cs:List Value}{N':Nat->Nat->Prop}(hd:l.deep h=some (true,l'))(hh:fC C β h w)(hN:∀ b j,b<w.heap.size->N' b j->C.N0 b j)(hr:l.Rel β w (C.N β h) cs):l'.Rel β' w N' cs/\l'.isD=true:=by
 have hN0:∀ b j,b<w.heap.size->N' b j->C.N β h b j:=λb j hb hn=>.inl (hN b j hb hn)
 have plain:l.isD=true->l'=l->l'.Rel β' w N' cs/\l'.isD=true:=λh1 h2=>by subst h2;exact⟨L.xCk hN0 h1 hr,h1⟩
 cases l with
 |val t x=>simp only[L.deep,aA,aC,true_and]at hd;exact plain rfl hd.symm
 |jC=>simp only[L.deep,aA,aC,true_and]at hd;exact plain rfl hd.symm
 |aZ=>simp only[L.deep,aA,aC,true_and]at hd;exact plain rfl hd.symm
 |rJ t x off=>simp only[L.deep,aA,aC,true_and]at hd;exact plain rfl hd.symm
 |clo f cs =>
  cases cs with
  |nil=>simp only[L.deep,aA,aC,true_and]at hd;exact plain rfl hd.symm
  |cons _ _=>simp[L.deep]at hd
 |own id ver =>
  simp only[L.deep]at hd;split at hd
  ·rename_i e t v rows wr ho;simp only[aA,aC]at hd;obtain⟨hv,rfl⟩:=hd;have hv:=aP hv;have hob:=hh.obj _ _ ho;simp only[Ob.Rel]at hob;obtain⟨_,_,hpv,_,_,hpl,_⟩:=hob;simp only[L.Rel]at hr;obtain⟨_,_,_,c,rfl,_,himp⟩:=hr;have hsl:=himp (by rw[hpv,hv]);rw[hpl]at hsl;have:=yEy hh ho hsl (by omega) hN;rw[qEk,List.take_length]at this;exact⟨by simpa only[L.Rel]using this,rfl⟩
  ·cases hd
 |sl id ver off len =>
  simp only[L.deep]at hd;split at hd
  ·rename_i e t v rows wr ho;simp only[aA,aC,aD]at hd;obtain⟨⟨hv,hle⟩,rfl⟩:=hd;have hv:=aP hv;have hob:=hh.obj _ _ ho;simp only[Ob.Rel]at hob;obtain⟨_,_,hpv,_,_,hpl,_⟩:=hob;simp only[L.Rel]at hr;obtain⟨_,_,_,c,rfl,_,himp⟩:=hr;exact⟨by simpa only[L.Rel]using yEy hh ho (himp (by rw[hpv,hv])) (bX hle) hN,rfl⟩
  ·cases hd
 |_=>simp[L.deep]at hd
theorem yAk{h:List Ob}{N':Nat->Nat->Prop}(hh:fC C β h w)(hN:∀ b j,b<w.heap.size->N' b j->C.N0 b j):∀ {ls ls':List L}{cs:List Value},zHb h ls=some (true,ls')->aJ β w (C.N β h) ls cs->aJ β' w N' ls' cs/\dF L.isD ls'=true
 |[],ls',cs,hd,hr=>by
  simp only[zHb,aA,aC,true_and]at hd;subst hd;exact⟨hr,rfl⟩
 |l::ls,ls',cs,hd,hr=>by
  simp only[zHb]at hd;split at hd
  ·rename_i c x d r h1 h2;simp only[aA,aC,aD]at hd;obtain⟨⟨rfl,rfl⟩,rfl⟩:=hd;obtain⟨c1,c2,e,r1,r2⟩:=hr;obtain⟨g1,g2⟩:=L.Fe (β':=β') h1 hh hN r1;obtain⟨g3,g4⟩:=yAk hh hN h2 r2;exact⟨⟨c1,c2,e,g1,g3⟩,by simp only[dF,g2,g4,qEi]⟩
  ·cases hd
theorem V.Fe{h:List Ob}{v v':V}{x:Value}{N':Nat->Nat->Prop}(hd:v.deep h=some (true,v'))(hh:fC C β h w)(hN:∀ b j,b<w.heap.size->N' b j->C.N0 b j)(hr:v.Rel β w (C.N β h) x):v'.Rel β' w N' x/\v'.isD=true:=by
 cases v with
 |one l =>
  simp only[V.deep]at hd;split at hd
  ·rename_i c y h1;simp only[aA,aC]at hd;obtain⟨rfl,rfl⟩:=hd;exact L.Fe h1 hh hN hr
  ·cases hd
 |agg ls =>
  simp only[V.deep]at hd;split at hd
  ·rename_i c y h1;simp only[aA,aC]at hd;obtain⟨rfl,rfl⟩:=hd;obtain⟨cs,e,hr⟩:=hr;obtain⟨g1,g2⟩:=yAk (β':=β') hh hN h1 hr;exact⟨⟨cs,e,g1⟩,g2⟩
  ·cases hd
 |_=>simp[V.deep]at hd
theorem zCz{P:Program}{t:TypeId}{x y:Value}(h:(Instr.loadAt t x).run P w=.ok y w):∃ a,x=.pointer (some a)/\(loadVar t a).run P w=.ok y w:=by
 cases x<;>simp only[Instr.loadAt,Instr.sureAddr,jJ,run_stuck,Result.andThen,reduceCtorEq]at h
 rename_i a;cases a with
 |none=>simp only[run_stuck,reduceCtorEq]at h
 |some a=>exact⟨a,rfl,by simpa only[Instr.loadAt,Instr.sureAddr,jJ,jI,kQ]using h⟩
def Az (tmps:Array Value):ResultVar->Sem Value | .tmp t=>pure (tmps.getD t undef) | .cell a t=>do loadVar t (<- asAddr (tmps.getD a undef))
theorem zHc{σ:St}{a:Act}(hs:Sim C β σ a w)(t:Nat):(σ.r.getD t .cK).Rel β w (C.N β σ.h) (a.tmps.getD t undef):=bE hs (.tmp t)
theorem yXg{σ:St}{a:Act}{rv:ResultVar}{s:Sum L (List L)}{N':Nat->Nat->Prop}(hT:bU C.P T)(hs:Sim C β σ a w)(hN:∀ b j,b<w.heap.size->N' b j->C.N0 b j)(h:yOr T σ rv=some (true,s)):∃ x,(Az a.tmps rv).run C.P w=.ok x w/\jM β' w N' s x/\yWf s=true:=by
 cases rv with
 |tmp t =>
  simp only[yOr]at h;have hr:=zHc hs t;refine⟨a.tmps.getD t undef,rfl,?_⟩;split at h
  ·rename_i c l hd;simp only[aA,aC]at h;obtain⟨rfl,rfl⟩:=h;exact V.Fe (β':=β') hd hs.heap hN hr
  ·rename_i c ls hd;simp only[aA,aC]at h;obtain⟨rfl,rfl⟩:=h;exact V.Fe (β':=β') hd hs.heap hN hr
  ·cases h
 |cell t ty =>
  simp only[yOr]at h;have hr:=zHc hs t;split at h
  ·rename_i l hl;rw[hl]at hr;split at h
   ·rename_i c v hv;split at h
    ·rename_i d l2 hd;simp only[aA,aC,aD]at h;obtain⟨⟨rfl,rfl⟩,rfl⟩:=h;obtain⟨y,h1,h2⟩:=Wn hT hv hs.heap hr;obtain⟨ad,h3,h4⟩:=zCz h1;refine⟨y,?_,V.Fe (β':=β') hd hs.heap hN h2⟩;simp only[Az,h3,asAddr,jJ,jI,kQ,h4]
    ·rename_i d ls2 hd;simp only[aA,aC,aD]at h;obtain⟨⟨rfl,rfl⟩,rfl⟩:=h;obtain⟨y,h1,h2⟩:=Wn hT hv hs.heap hr;obtain⟨ad,h3,h4⟩:=zCz h1;refine⟨y,?_,V.Fe (β':=β') hd hs.heap hN h2⟩;simp only[Az,h3,asAddr,jJ,jI,kQ,h4]
    ·cases h
   ·cases h
  ·cases h
theorem yAl{σ:St}{a:Act}{N':Nat->Nat->Prop}(hT:bU C.P T)(hs:Sim C β σ a w)(hN:∀ b j,b<w.heap.size->N' b j->C.N0 b j):∀ {rs:List ResultVar}{vs:List (Sum L (List L))},zOc T σ rs=some (true,vs) ->
 ∀ acc:Array Value,∃ us:List Value,(rs.foldlM (λ(acc:Array Value) rv=>do let v <- Az a.tmps rv;pure (acc.push v)) acc).run C.P w=.ok (acc++us.toArray) w/\bJ (jM β' w N') vs us /\
  dF yWf vs=true
 |[],vs,h,acc=>by
  simp only[zOc,aA,aC,true_and]at h;subst h;exact⟨[],by simp,trivial,rfl⟩
 |rv::rs,vs,h,acc=>by
  simp only[zOc]at h;split at h
  ·rename_i c s d r h1 h2;simp only[aA,aC,aD]at h;obtain⟨⟨rfl,rfl⟩,rfl⟩:=h;obtain⟨x,g1,g2,g3⟩:=yXg (β':=β') hT hs hN h1;obtain⟨us,g4,g5,g6⟩:=yAl hT hs hN h2 (acc.push x);refine⟨x::us,?_,⟨g2,g5⟩,by simp only[dF,g6,qEj];exact g3⟩;simp only[qEl,jJ,g1,kQ,jI,g4];simp
  ·cases h
end
def Sb (vs:List V) (n:Nat):List V:=vs++qAf (n-vs.length) .cK
end Go.Dec
namespace Go.Dec
@[reducible] def bT:List Ty->Type
 |[]=>Unit
 |[t]=>t.den
 |t::u::r=>t.den × bT (u::r)
def sP:List Value->Value | [u]=>u | us => .tuple us.toArray
def xFd(bor:Bool)(N:Nat->Nat->Prop):Nat->Nat->Prop :=
 match bor with
 |true=>λ_ _=>False
 |false=>N
def nA(w:World)(N:Nat->Nat->Prop):(ts:List Ty)->bT ts->List Value->Prop
 |[],_,us=>us=[]
 |[t],x,us=>∃ u,us=[u]/\t.bW w N x u
 |t::s::r,x,us=>∃ u us',us=u::us'/\t.bW w N x.1 u/\nA w N (s::r) x.2 us'
def vOf(t:Ty)(x:t.den):V :=
 match t.isAgg with
 |true=>.agg (explode t x)
 |false=>.one (.val t x)
def sOf(t:Ty)(x:t.den):Sum L (List L):=
 match t.isAgg with
 |true=>.inr (explode t x)
 |false=>.inl (.val t x)
def zHd:(ts:List Ty)->bT ts->List V | [],_=>[] | [t],x=>[vOf t x] | t :: s :: r,x=>vOf t x.1 :: zHd (s :: r) x.2
def yOs:(ts:List Ty)->bT ts->List (Sum L (List L)) | [],_=>[] | [t],x=>[sOf t x] | t :: s :: r,x=>sOf t x.1 :: yOs (s :: r) x.2
def yOt(t:Ty)(ls:List L):Option t.den :=
 match dS t ls with
 |some (x,[])=>some x
 |_=>none
def zYf(t:Ty)(s:Sum L (List L)):Option t.den :=
 match t.isAgg,s with
 |true,.inr ls=>yOt t ls
 |false,.inl l=>l.asT t
 |_,_=>none
def zBz:(ts:List Ty)->List (Sum L (List L))->Option (bT ts)
 |[],[]=>some ()
 |[t],[s]=>zYf t s
 |t::u::r,s::ss =>
  match zYf t s,zBz (u::r) ss with
  |some x,some y=>some (x,y)
  |_,_=>none
 |_,_=>none
def V.sum:V->Option (Sum L (List L)) | .one l=>some (.inl l) | .agg ls=>some (.inr ls) | _=>none
def zRv(bor:Bool)(h:List Ob)(t:Ty)(v:V):Option (Bool × t.den):=
 match bor with
 |true =>
  match v.deep h with
  |some (c,u)=>
   match u.sum with
   |some s=>match zYf t s with
    |some x=>some (c,x)
    |none=>none
   |none=>none
  |none=>none
 |false =>
  match v.isD,v.sum with
  |true,some s=>match zYf t s with
   |some x=>some (true,x)
   |none=>none
  |_,_=>none
def Kk(bor:Bool)(h:List Ob):(ts:List Ty)->List V->Option (Bool × bT ts)
 |[],[]=>some (true,())
 |[t],[v]=>zRv bor h t v
 |t::u::r,v::vs =>
  match zRv bor h t v,Kk bor h (u::r) vs with
  |some (c,x),some (d,y)=>some (c&&d,(x,y))
  |_,_=>none
 |_,_=>none
def Ty.flat:Ty->Bool | .pair a b=>a.flat&&b.flat | .arr _ a=>a.flat | .slice _=>false | .clip _=>false | .opq=>false | _=>true
section
variable {β:Nat->Pl}{w:World}{N:Nat->Nat->Prop}
theorem yLg{t:Ty}{x:t.den}{u:Value}(h:t.bW w N x u):(vOf t x).Rel β w N u:=by
 unfold vOf;unfold Ty.bW at h;cases ha:t.isAgg with
 |true =>
  rw[ha,if_pos rfl]at h;obtain⟨cs,e,h⟩:=h;exact⟨cs,e,lJ h⟩
 |false =>
  rw[ha,if_neg (by simp)]at h;simp only[V.Rel,L.Rel];exact h
theorem yAm:∀ {ts:List Ty}{x:bT ts}{us:List Value},nA w N ts x us->rO β w N (zHd ts x) us
 |[],_,_,h=>by simp only[nA]at h;subst h;trivial
 |[t],x,_,h=>by obtain⟨u,rfl,h⟩:=h;exact⟨yLg h,trivial⟩
 |t::s::r,x,_,h=>by
  obtain⟨u,us,rfl,h,h2⟩:=h;exact⟨yLg h,yAm h2⟩
theorem yLh{t:Ty}{x:t.den}{u:Value}(h:t.bW w N x u):jM β w N (sOf t x) u:=by
 unfold sOf;unfold Ty.bW at h;cases ha:t.isAgg with
 |true =>
  rw[ha,if_pos rfl]at h;obtain⟨cs,e,h⟩:=h;exact⟨cs,e,lJ h⟩
 |false =>
  rw[ha,if_neg (by simp)]at h;simp only[jM,L.Rel];exact h
theorem yAn:∀ {ts:List Ty}{x:bT ts}{us:List Value},nA w N ts x us->bJ (jM β w N) (yOs ts x) us
 |[],_,_,h=>by simp only[nA]at h;subst h;trivial
 |[t],x,_,h=>by obtain⟨u,rfl,h⟩:=h;exact⟨yLh h,trivial⟩
 |t::s::r,x,_,h=>by
  obtain⟨u,us,rfl,h,h2⟩:=h;exact⟨yLh h,yAn h2⟩
theorem yTc{t:Ty}{ls:List L}{x:t.den}{cs:List Value}(h:yOt t ls=some x)(hr:aJ β w N ls cs):t.Rel w N x cs:=by
 unfold yOt at h;split at h
 ·rename_i y hi;simp only[aA]at h;subst h;obtain⟨c1,c2,e,h1,h2⟩:=vJ hi hr;simp only[aJ]at h2;subst h2;rw[vE]at e;subst e;exact h1
 ·cases h
theorem zHe{t:Ty}{s:Sum L (List L)}{x:t.den}{u:Value}(h:zYf t s=some x)(hr:jM β w N s u):t.bW w N x u:=by
 unfold zYf at h;unfold Ty.bW;split at h
 ·rename_i ls ha;rw[ha,if_pos rfl];obtain⟨cs,e,hr⟩:=hr;exact⟨cs,e,yTc h hr⟩
 ·rename_i l ha;rw[ha,if_neg (by simp)];exact L.zNp h hr
 ·cases h
theorem yAo:∀ {ts:List Ty}{ss:List (Sum L (List L))}{x:bT ts}{us:List Value},zBz ts ss=some x->bJ (jM β w N) ss us->nA w N ts x us
 |[],[],_,[],_,_=>rfl
 |[t],[s],x,[u],h,hr=>⟨u,rfl,zHe h hr.1⟩
 |t::u::r,s::ss,x,v::vs,h,hr=>by
  simp only[zBz]at h;split at h
  ·rename_i y z h1 h2;simp only[aA]at h;subst h;exact⟨v,vs,rfl,zHe h1 hr.1,yAo h2 hr.2⟩
  ·cases h
 |[],[],_,_::_,_,hr=>hr.elim
 |[],_::_,_,_,h,_=>by simp[zBz]at h
 |[t],[],_,_,h,_=>by simp[zBz]at h
 |[t],[s],_,[],_,hr=>hr.elim
 |[t],[s],_,_::_::_,_,hr=>hr.2.elim
 |[t],_::_::_,_,_,h,_=>by simp[zBz]at h
 |t::u::r,[],_,_,h,_=>by simp[zBz]at h
 |t::u::r,s::ss,_,[],_,hr=>hr.elim
theorem V.zYg{v:V}{s:Sum L (List L)}{u:Value}(h:v.sum=some s)(hr:v.Rel β w N u):jM β w N s u:=by
 cases v<;>simp only[V.sum,aA,reduceCtorEq]at h<;>subst h<;>exact hr
theorem Ty.Rel.flat{N':Nat->Nat->Prop}{w':World}:∀ {t:Ty}{x:t.den}{cs:List Value},t.flat=true->t.Rel w N x cs->t.Rel w' N' x cs
 |.unit,_,_,_,h=>h
 |.bool,_,_,_,h=>h
 |.int _,_,_,_,h=>h
 |.str,_,_,_,h=>h
 |.err,_,_,_,h=>h
 |.opq,_,_,hf,_=>by cases hf
 |.slice _,_,_,hf,_=>by cases hf
 |.clip _,_,_,hf,_=>by cases hf
 |.pair a b,_,_,hf,h=>by
  simp only[Ty.flat,aD]at hf;obtain⟨c1,c2,e,h1,h2⟩:=h;exact⟨c1,c2,e,Ty.Rel.flat hf.1 h1,Ty.Rel.flat hf.2 h2⟩
 |.arr n a,_,_,hf,h=>by
  simp only[Ty.flat]at hf;obtain⟨h0,css,e,h1⟩:=h;exact⟨h0,css,e,h1.mono λx c hx=>Ty.Rel.flat hf hx⟩
theorem Ty.bW.flat{N':Nat->Nat->Prop}{w':World}{t:Ty}{x:t.den}{u:Value}(hf:t.flat=true)(h:t.bW w N x u):t.bW w' N' x u:=by
 unfold Ty.bW at *;split
 ·rename_i ha;rw[if_pos ha]at h;obtain⟨cs,e,h⟩:=h;exact⟨cs,e,h.flat hf⟩
 ·rename_i ha;rw[if_neg ha]at h;exact h.flat hf
theorem nA.flat{N':Nat->Nat->Prop}{w':World}:∀ {ts:List Ty}{x:bT ts}{us:List Value},dF Ty.flat ts=true->nA w N ts x us->nA w' N' ts x us
 |[],_,_,_,h=>h
 |[t],x,_,hf,h=>by
  simp only[dF,qEj]at hf;obtain⟨u,e,h⟩:=h;exact⟨u,e,h.flat hf⟩
 |t::s::r,x,_,hf,h=>by
  simp only[dF,aD]at hf;obtain⟨u,us,e,h,h2⟩:=h;exact⟨u,us,e,h.flat hf.1,nA.flat (by simp only[dF,aD];exact hf.2) h2⟩
end
def Pure(P:Program)(f:FuncId)(as rs:List Ty)(F:bT as->Option (bT rs)):Prop :=
 iK P f=true/\∀ x y,F x=some y->∀ (w:World) (N:Nat->Nat->Prop) (xs:List Value),Glob P w->(∀ b j,N b j->b<w.heap.size)->nA w N as x xs ->
  Calls P f xs.toArray w λe w'=>∃ us:List Value,e=.returned (sP us)/\w'.os=w.os/\w'.tape=w.tape/\w'.output=w.output/\Keep (λ_ _=>False) w w'/\nA w' N rs y us
def yOu(T:Tab)(res:List ResultVar)(rs:List Ty)(σ:St):Option (bT rs):=
 match zOc T σ res with
 |some (c,vs)=>
  match zBz rs vs with
  |some y=>chk c (some y)
  |none=>none
 |none=>none
def yOv(T:Tab)(res:List ResultVar)(rs:List Ty):K (bT rs):=λe σ =>
 match e with
 |.normal=>yOu T res rs σ
 |.ret=>yOu T res rs σ
 |_=>none
section
variable {T:Tab}{P:Program}
theorem yEz{C:Ctx}{β β':Nat->Pl}{w:World}{σ:St}{a:Act}{fn:Func}{vs:List (Sum L (List L))}{N':Nat->Nat->Prop}(hT:bU C.P T)(hs:Sim C β σ a w)(hN:∀ b j,b<w.heap.size->N' b j->C.N0 b j)(h:zOc T σ fn.results.toList=some (true,vs)):∃ us:List Value,(results fn a.tmps).run C.P w=.ok (sP us) w/\bJ (jM β' w N') vs us:=by
 obtain⟨us,h1,h2,_⟩:=yAl (β':=β') hT hs hN h #[];refine⟨us,?_,h2⟩;have e0:results fn a.tmps=(do let vs <- fn.results.mapM (Az a.tmps);pure (if h:vs.size=1 then vs[0]else .tuple vs)):=by
  unfold results;congr 1
 have hm:(fn.results.mapM (Az a.tmps):Sem (Array Value)).run C.P w=.ok us.toArray w:=by
  rw[qEm,<- qEn];have e:(λ(acc:Array Value) rv=>do let v <- Az a.tmps rv;pure (acc.push v):Array Value->ResultVar->Sem (Array Value))=(λ(acc:Array Value) rv=>acc.push <$> Az a.tmps rv):=by
   funext acc rv;rfl
  rw[e]at h1;simpa using h1
 rw[e0];simp only[jJ,hm,kQ,jI];match us with
 |[]=>rfl
 |[u]=>rfl
 |u::v::us=>simp[sP]
theorem zLb:∀ cs:List Co,dF (Co.fx 0) cs=true
 |[]=>rfl
 |c::cs=>by
  simp only[dF,zLb cs,qEj];cases c<;>first|rfl|simp[Co.fx]
theorem Ta{ρ:Type}:∀ an:An ρ,an.fx 0=true
 |.nil=>rfl
 |.mk l r c=>by simp only[An.fx,Ta l,Ta r,zLb,qEi]
 |.loop _ c0 c1 _ a=>by simp only[An.fx,Ta a,zLb,qEi]
 |.scope _ a b=>by simp only[An.fx,Ta a,Ta b,qEi]
 |.sem _=>rfl
 |.co c a=>by simp only[An.fx,Ta a,zLb,qEi]
 |.join _ c a=>by simp only[An.fx,Ta a,zLb,qEi]
theorem bH{f:FuncId}{fn:Func}{c:Code}{as rs:List Ty}{F:bT as->Option (bT rs)}{Γ:Orc (bT rs)}{an:An (bT rs)}(hf:P.funcs[f]?=some fn)(hb:fn.body=some c)(hh:iK P f=true)(hT:bU P T)(hΓ:kW P Γ)(hm:P.follows .mixedOrders=true)(ha:zRu P 0 c an)(h:∀ x,ev Γ T c an ⟨Sb (zHd as x) fn.ntmps,[]⟩ (yOv T fn.results.toList rs)=F x):Pure P f as rs F:=by
 refine⟨hh,λx y hF w N xs hG hN hx=>?_⟩;rw[<- h x]at hF
 let C:Ctx:={ P:=P,N0:=N,w0:=w,Uv:=λ_ _=>False,glob:=λw' h=>hG.keep λb hb=>h.block b hb (λ_ h=>h),fix:=[] }
 let β0:Nat->Pl:=λ_=>⟨false,false,0,none,0,0,0,[]⟩
 have hargs:rO β0 w N (zHd as x) xs:=yAm hx;have hxl:(zHd as x).length=xs.length:=hargs.length;have Ew:Sim C β0 ⟨Sb (zHd as x) fn.ntmps,[]⟩ { tmps:=xs.toArray++qDy (fn.ntmps-xs.toArray.size) undef,defers:=[] } w:=by
  refine⟨⟨by simp,λ_ _=>rfl,by simp,by simp,hN,Keep.refl _ _,aS _,rfl,rfl,rfl,λj o hj=>by cases hj⟩,rfl,by simp[Sb,hxl],?_⟩;intro i u hu;simp only[Sb]at hu;by_cases hi:i<(zHd as x).length
  ·rw[fU hi]at hu;have hi':i<xs.length:=by rw[<- hxl];exact hi
   have hr:=hargs.get i hi hi';rw[wW hi]at hu;simp only[aA]at hu;subst hu;have:(xs.toArray++qDy (fn.ntmps-xs.toArray.size) undef).getD i undef=xs[i]:=by
    rw[qCl,Array.getElem?_append_left (by simpa using hi')];simp[hi']
   rw[this];refine hr.mono (Moves.refl β0) (Keep.refl _ w) (λb j _ hb=>?_);rcases hb with hb|⟨id,o,ho,_⟩
   ·exact hb
   ·simp at ho
  ·rw[yZ (by omega),qEo]at hu;split at hu
   ·simp only[aA]at hu;subst hu;trivial
   ·cases hu
 refine calls_of_wp hf hb ?_;refine zHa (P:=P) hT hΓ hm c an ha (Ta an) _ _ y hF C β0 _ w _ rfl (aS _) Ew ?_;intro e x' σ' β' a' w' hs' hx' hk;have fin:yOu T fn.results.toList rs σ'=some y->x'=.ret\/x'=.normal->bodyPost P fn (λe w'=>∃ us:List Value,e=.returned (sP us)/\w'.os=w.os/\w'.tape=w.tape/\w'.output=w.output/\Keep (λ_ _=>False) w w'/\nA w' N rs y us) x' a' w':=by
  intro hk hx';unfold yOu at hk;split at hk
  ·rename_i cc ss hrs;split at hk
   ·rename_i y' hd;obtain⟨rfl,hk⟩:=iP hk;obtain rfl:=qBc hk;obtain⟨us,h1,h2⟩:=yEz (C:=C) (β':=β0) (N':=N) (fn:=fn) hT hs' (λ_ _ _ hb=>hb) hrs;have hkeep:Keep (λ_ _=>False) w w':=hs'.heap.frame;have hR:=yAo hd h2;rcases hx' with rfl|rfl
    ·exact⟨hs'.defers,_,h1,us,rfl,hs'.heap.os,hs'.heap.tape,hs'.heap.output,hkeep,hR⟩
    ·exact⟨hs'.defers,_,h1,us,rfl,hs'.heap.os,hs'.heap.tape,hs'.heap.output,hkeep,hR⟩
   ·cases hk
  ·cases hk
 cases e with
 |normal=>obtain rfl:=hx';exact fin hk (.inr rfl)
 |ret=>obtain rfl:=hx';exact fin hk (.inl rfl)
 |exit i=>simp[yOv]at hk
 |goto l=>simp[yOv]at hk
 |pan t u=>simp[yOv]at hk
def bN(as rs:List Ty)(F:bT as->Option (bT rs)):PE where
 R:=bT rs
 use:=1
 run vs h:=match Kk (dF Ty.flat rs) h as vs with
  |some (c,x)=>some (c,F x)
  |none=>none
 enc y _ h:=(yXf (yOs rs y),h)
theorem yFa{C:Ctx}{β:Nat->Pl}{h:List Ob}{w:World}{bor:Bool}{t:Ty}{v:V}{x:t.den}{u:Value}(hd:zRv bor h t v=some (true,x))(hs:fC C β h w)(hr:v.Rel β w (C.N β h) u):t.bW w (xFd bor (C.N β h)) x u:=by
 unfold zRv at hd;cases bor with
 |true =>
  simp only at hd ⊢;split at hd
  ·rename_i c v' hv;split at hd
   ·rename_i s hsum;split at hd
    ·rename_i y hy;simp only[aA,aC]at hd;obtain⟨rfl,rfl⟩:=hd;obtain⟨h1,_⟩:=V.Fe (β':=β) (N':=λ_ _=>False) hv hs (λ_ _ _ h=>h.elim) hr;exact zHe hy (V.zYg hsum h1)
    ·cases hd
   ·cases hd
  ·cases hd
 |false =>
  simp only at hd ⊢;split at hd
  ·rename_i s hD hsum;split at hd
   ·rename_i y hy;simp only[aA,aC,true_and]at hd;subst hd;exact zHe hy (V.zYg hsum hr)
   ·cases hd
  ·cases hd
theorem yAp{C:Ctx}{β:Nat->Pl}{h:List Ob}{w:World}{bor:Bool}(hs:fC C β h w):∀ {ts:List Ty}{vs:List V}{x:bT ts}{us:List Value},Kk bor h ts vs=some (true,x)->rO β w (C.N β h) vs us ->
 nA w (xFd bor (C.N β h)) ts x us
 |[],[],_,[],_,_=>rfl
 |[t],[v],x,[u],hd,hr=>⟨u,rfl,yFa hd hs hr.1⟩
 |t::s::r,v::vs,x,u::us,hd,hr=>by
  simp only[Kk]at hd;split at hd
  ·rename_i c y d z h1 h2;simp only[aA,aC,aD]at hd;obtain⟨⟨rfl,rfl⟩,rfl⟩:=hd;exact⟨u,us,rfl,yFa h1 hs hr.1,yAp hs h2 hr.2⟩
  ·cases hd
 |[],[],_,_::_,_,hr=>hr.elim
 |[],_::_,_,_,h,_=>by simp[Kk]at h
 |[t],[],_,_,h,_=>by simp[Kk]at h
 |[t],[s],_,[],_,hr=>hr.elim
 |[t],[s],_,_::_::_,_,hr=>hr.2.elim
 |[t],_::_::_,_,_,h,_=>by simp[Kk]at h
 |t::u::r,[],_,_,h,_=>by simp[Kk]at h
 |t::u::r,s::ss,_,[],_,hr=>hr.elim
theorem yFb{h:List Ob}:∀ {l:L},l.isD=true->l.deep h=some (true,l)
 |.val ..,_=>rfl
 |.jC,_=>rfl
 |.aZ,_=>rfl
 |.rJ ..,_=>rfl
 |.clo f [],_=>rfl
 |.clo f (_::_),h=>by cases h
 |.ptr ..,h=>by cases h
 |.sK ..,h=>by cases h
 |.jD ..,h=>by cases h
 |.sl ..,h=>by cases h
 |.own ..,h=>by cases h
 |.bad _,h=>by cases h
 |.fD ..,h=>by cases h
theorem yAq{h:List Ob}:∀ {ls:List L},dF L.isD ls=true->zHb h ls=some (true,ls)
 |[],_=>rfl
 |l::ls,hd=>by
  simp only[dF,aD]at hd;simp only[zHb,yFb hd.1,yAq hd.2,qEi]
theorem yFc{bor:Bool}{t:Ty}{v:V}(hd:v.isD=true)(h h2:List Ob):zRv bor h t v=zRv bor h2 t v:=by
 cases bor with
 |false=>rfl
 |true =>
  unfold zRv;cases v with
  |one l=>simp only[V.deep,yFb (show l.isD=true from hd)]
  |agg ls=>simp only[V.deep,yAq (show dF L.isD ls=true from hd)]
  |_=>rfl
theorem yAr{bor:Bool}:∀ {ts:List Ty}{vs:List V}(_:dF V.isD vs=true) (h h2:List Ob),Kk bor h ts vs=Kk bor h2 ts vs
 |[],[],_,_,_=>rfl
 |[t],[v],hd,h,h2=>by
  simp only[dF,qEj]at hd;simp only[Kk,yFc hd h h2]
 |t::s::r,v::vs,hd,h,h2=>by
  simp only[dF,aD]at hd;simp only[Kk,yFc hd.1 h h2,yAr (ts:=s::r) hd.2 h h2]
 |[],_::_,_,_,_=>rfl
 |[t],[],_,_,_=>rfl
 |[t],_::_::_,_,_,_=>rfl
 |t::s::r,[],_,_,_=>rfl
theorem yFd{β:Nat->Pl}{w:World}{N:Nat->Nat->Prop}{ss:List (Sum L (List L))}{us:List Value}(h:bJ (jM β w N) ss us):(yXf ss).Rel β w N (sP us):=by
 match ss,us,h with
 |[],[],_=>exact⟨[],rfl,trivial⟩
 |[.inl l],[u],h=>exact h.1
 |[.inr ls],[u],h=>exact h.1
 |s::t::ss,u::v::us,h=>cases s<;>exact⟨_,rfl,h⟩
theorem aN{f:FuncId}{as rs:List Ty}{F:bT as->Option (bT rs)}(h:Pure P f as rs F):(bN as rs F).OK P f:=by
 refine⟨h.1,λvs hp y hr C β w xs hP hs ha=>?_,λ_ vs h1 h2 hd=>⟨by simp only[bN];rw[yAr hd h1 h2],λ_=>rfl⟩,λ_ _ _ _=>rfl,λh=>by cases h⟩;subst hP;simp only[bN]at hr;split at hr
 ·rename_i c x hd;simp only[aA,aC]at hr;obtain⟨rfl,hF⟩:=hr;have hx:=yAp hs hd ha;have hn:∀ b j,C.N β hp b j->b<w.heap.size:=λb j hb=>by
   rcases hb with hb|⟨id,o,ho,_,hbk⟩
   ·exact wD (hs.n0 b j hb) hs.size
   ·exact(hs.eZ id o b ho ⟨j,hbk⟩).2.1
  refine(h.2 x y hF w _ xs (C.glob w hs.frame) (λb j hb=>?_) hx).mono ?_
  ·cases hfl:dF Ty.flat rs with
   |true=>rw[hfl]at hb;exact hb.elim
   |false=>rw[hfl]at hb;exact hn b j hb
  ·rintro e w' ⟨us,rfl,ho,ht,hop,hk,hy⟩;have hy':nA w' (C.N β hp) rs y us:=by
    cases hfl:dF Ty.flat rs with
    |true=>exact hy.flat hfl
    |false=>rw[hfl]at hy;exact hy
   refine⟨_,_,β,⟨rfl,rfl⟩,Moves.refl β,hk.weaken λ_ _ h=>h.elim,λ_ _ _ h=>h,?_,_,rfl,yFd (yAn hy')⟩;refine⟨λid o hob=>(hs.obj id o hob).mono (Moves.refl β) (hk.weaken λ_ _ h=>h.elim) (λ_ _ _ h=>h) λb hb=>hk.block b (hs.eZ id o b hob hb).2.1 (λ_ h=>h),hs.dead,hs.kX,?_,hs.n0,hs.frame.uJ hk λ_ _ _ h=>h.elim,zG hs.size hk.size,ho.trans hs.os,ht.trans hs.tape,hop.trans hs.output,hs.fixed⟩
   ·intro id o b hob hb;obtain⟨k1,k2,k3⟩:=hs.eZ id o b hob hb;exact⟨k1,wD k2 hk.size,k3⟩
 ·cases hr
def pes:List (FuncId × PE)->FuncId->Option PE
 |[],_=>none
 |(g,e)::r,f=>match vF g f with
  |true=>some e
  |false=>pes r f
def orc (ρ:Type) (l:List (FuncId×PE)):Orc ρ := { pure:=pes l,gen:=fun _ _ _ _=>none }
theorem xFe{ρ:Type}:∀ {l:List (FuncId × PE)},(∀ p∈l,p.2.OK P p.1)->kW P (orc ρ l):=by
 intro l h;refine⟨λf e he=>?_,λ_ _ _ _ _ h=>by cases h⟩;simp only[orc]at he;induction l with
 |nil=>cases he
 |cons p r ih =>
  obtain⟨g,e'⟩:=p;simp only[pes]at he;split at he
  ·rename_i hb;have:=aP hb;subst this;simp only[aA]at he;subst he;exact h _ (.head _)
  ·exact ih (λp hp=>h p (.tail _ hp)) he
theorem all_nil{Q:FuncId × PE->Prop}:∀ p∈([]:List (FuncId × PE)),Q p:=λ_ h=>by cases h
theorem all_cons{Q:FuncId × PE->Prop}{p:FuncId × PE}{l:List (FuncId × PE)}(h:Q p)(hl:∀ q∈l,Q q):∀ q∈p::l,Q q:=λq hq=>by
 cases hq with
 |head=>exact h
 |tail _ hq=>exact hl q hq
end
end Go.Dec
namespace Go.Dec
mutual
def L.back (f v:Nat->Nat):L->L | .ptr id o => .ptr (f id) o | .fD id o => .fD (f id) o | .sK id o es i sub => .sK (f id) o es i sub | .jD id u i o => .jD (f id) (u+v id) i o | .sl id u i n => .sl (f id) (u+v id) i n | .own id u => .own (f id) (u+v id) | .clo g caps => .clo g (L.backs f v caps) | .mp id => .mp (f id) | l=>l
def L.backs (f v:Nat->Nat):List L->List L | []=>[] | l :: ls=>l.back f v :: L.backs f v ls
end
def V.back (f v:Nat->Nat):V->V | .one l => .one (l.back f v) | .agg ls => .agg (L.backs f v ls) | _ => .cK
def Ob.back (f v:Nat->Nat) (id:Nat):Ob->Ob | .box e ls => .box e (L.backs f v ls) | .arr e t u rows wr => .arr e t (u+v id) rows wr | .fm tab => .fm tab | .dm kt vt es => .dm kt vt es | .stk e ei u rows top => .stk e ei (u+v id) rows (top.map (L.backs f v))
section
variable {β β':Nat->Pl}{w:World}{N N':Nat->Nat->Prop}
structure zLc (p q:Pl) (v:Nat):Prop where
 live:q.live=p.live
 box:q.box=p.box
 blk:q.blk=p.blk
 row:p.box=false->q.ver=p.ver+v/\q.size=p.size/\q.cap=p.cap/\q.len=p.len
 sub:p.box=false->q.sub=p.sub
theorem zLc.xAn{p q:Pl}{v:Nat}(h:zLc p q v)(hb:p.box=false){off len:Nat}{c:Value}:eP q off len c<->eP p off len c:=by
 obtain⟨_,h2,h3,_⟩:=h.row hb;unfold eP;rw[h.blk,h2,h3]
mutual
theorem L.Rel.back{f v:Nat->Nat}(hβ:∀ j,(β j).live=true->zLc (β j) (β' (f j)) (v j))(hN:∀ b j,b<w.heap.size->N' b j->N b j):∀ {l:L}{cs:List Value},l.Rel β w N cs->(l.back f v).Rel β' w N' cs
 |.val t x,cs,h=>by simp only[L.back,L.Rel]at *;exact Ty.Rel.mono (Keep.refl _ w) hN h
 |.ptr id off,cs,h=>by
  simp only[L.back,L.Rel]at *;obtain⟨h1,h2,h3⟩:=h;have:=hβ id h1;exact⟨this.live ▸ h1,this.box ▸ h2,by rw[this.blk];exact h3⟩
 |.sK id off es i sub,cs,h=>by
  simp only[L.back,L.Rel]at *;obtain⟨h1,h2,h3⟩:=h;have:=hβ id h1;exact⟨this.live ▸ h1,this.box ▸ h2,by rw[this.blk];exact h3⟩
 |.jC,cs,h=>by simp only[L.back,L.Rel]at *;exact h
 |.fD id off,cs,h=>by
  simp only[L.back,L.Rel]at *;obtain⟨c,e,h⟩:=h;refine⟨c,e,?_⟩;rcases h with h|⟨h1,h2,h3⟩
  ·exact .inl h
  ·have:=hβ id h1;exact .inr ⟨this.live ▸ h1,this.box ▸ h2,by rw[this.blk];exact h3⟩
 |.jD id u i off,cs,h=>by
  simp only[L.back,L.Rel]at *;obtain⟨h1,h2,h3,c,h4,h5,h6⟩:=h;have:=hβ id h1;obtain⟨g1,g2,g3,g4⟩:=this.row h2;refine⟨this.live ▸ h1,this.box ▸ h2,by omega,c,h4,h5,λhv=>?_⟩;rw[this.blk,g2];exact h6 (by omega)
 |.rJ t x off,cs,h=>by simp only[L.back,L.Rel]at *;obtain⟨c,hc,hr⟩:=h;exact⟨c,hc,hr.mono (Keep.refl _ w) hN⟩
 |.sl id u off len,cs,h=>by
  simp only[L.back,L.Rel]at *;obtain⟨h1,h2,h3,c,h4,h5,h6⟩:=h;have:=hβ id h1;obtain⟨g1,g2,g3,g4⟩:=this.row h2;exact⟨this.live ▸ h1,this.box ▸ h2,by omega,c,h4,h5,λhv=>(this.xAn h2).2 (h6 (by omega))⟩
 |.own id u,cs,h=>by
  simp only[L.back,L.Rel]at *;obtain⟨h1,h2,h3,c,h4,h5,h6⟩:=h;have:=hβ id h1;obtain⟨g1,g2,g3,g4⟩:=this.row h2;exact⟨this.live ▸ h1,this.box ▸ h2,by omega,c,h4,h5,λhv=>by rw[g4];exact(this.xAn h2).2 (h6 (by omega))⟩
 |.aZ,cs,h=>by simp only[L.back,L.Rel]at *;exact h
 |.clo g caps,cs,h=>by
  simp only[L.back,L.Rel]at *;obtain⟨us,hc,hr⟩:=h;exact⟨us,hc,L.eG.back hβ hN hr⟩
 |.bad n,cs,h=>by simp only[L.back,L.Rel]at *;exact h
 |.Uu x tab,cs,h=>by simp only[L.back,L.Rel]at *;exact h
 |.mp id,cs,h=>by
  simp only[L.back,L.Rel]at *;obtain⟨h1,h2,h3⟩:=h;have:=hβ id h1;exact⟨this.live ▸ h1,this.box ▸ h2,by rw[this.blk];exact h3⟩
theorem L.eG.back{f v:Nat->Nat}(hβ:∀ j,(β j).live=true->zLc (β j) (β' (f j)) (v j))(hN:∀ b j,b<w.heap.size->N' b j->N b j):∀ {ls:List L}{us:List Value},L.eG β w N ls us->L.eG β' w N' (L.backs f v ls) us
 |[],us,h=>by simp only[L.backs,L.eG]at *;exact h
 |l::ls,us,h=>by
  simp only[L.backs,L.eG]at *;obtain⟨u,r,e,h1,h2⟩:=h;exact⟨u,r,e,L.Rel.back hβ hN h1,L.eG.back hβ hN h2⟩
end
theorem aJ.back{f v:Nat->Nat}(hβ:∀ j,(β j).live=true->zLc (β j) (β' (f j)) (v j))(hN:∀ b j,b<w.heap.size->N' b j->N b j):∀ {ls:List L}{cs:List Value},aJ β w N ls cs->aJ β' w N' (L.backs f v ls) cs
 |[],_,h=>h
 |_l::_ls,_,⟨c1,c2,e,h1,h2⟩=>⟨c1,c2,e,h1.back hβ hN,aJ.back hβ hN h2⟩
theorem V.Rel.back{f v:Nat->Nat}(hβ:∀ j,(β j).live=true->zLc (β j) (β' (f j)) (v j))(hN:∀ b j,b<w.heap.size->N' b j->N b j){x:V}{u:Value}(h:x.Rel β w N u):(x.back f v).Rel β' w N' u:=by
 cases x with
 |one l=>exact L.Rel.back hβ hN h
 |agg ls=>obtain⟨cs,e,h⟩:=h;exact⟨cs,e,h.back hβ hN⟩
 |_=>trivial
theorem Ob.Rel.back{f v:Nat->Nat}(hβ:∀ j,(β j).live=true->zLc (β j) (β' (f j)) (v j))(hN:∀ b j,b<w.heap.size->N' b j->N b j){id:Nat}{o:Ob}(h:o.Rel β w N (β id)):(o.back f v id).Rel β' w N' (β' (f id)):=by
 cases o with
 |box e ls =>
  simp only[Ob.back,Ob.Rel]at *;obtain⟨h1,h2,b,cs,h3,h4,h5⟩:=h;have:=hβ id h1;exact⟨this.live ▸ h1,this.box ▸ h2,b,cs,this.blk ▸ h3,h4.back hβ hN,h5⟩
 |arr e t u rows wr =>
  simp only[Ob.back,Ob.Rel]at *;obtain⟨h1,h2,h3,h4,h5,h6,h7⟩:=h;have:=hβ id h1;obtain⟨g1,g2,g3,g4⟩:=this.row h2;refine⟨this.live ▸ h1,this.box ▸ h2,by omega,by rw[g2,h4],h5,by rw[g4,h6],?_⟩;rw[this.blk,g3];rcases h7 with h7|⟨b,cur,css,k1,k2,k3,k4⟩
  ·exact .inl h7
  ·exact .inr ⟨b,cur,css,k1,k2,k3.mono λ_ _ h=>h.mono (Keep.refl _ w) hN,k4⟩
 |fm tab =>
  simp only[Ob.back,Ob.Rel]at *;obtain⟨h1,h2,b,es,n,h3,h4⟩:=h;have:=hβ id h1;exact⟨this.live ▸ h1,this.box ▸ h2,b,es,n,this.blk ▸ h3,h4⟩
 |dm kt vt es =>
  simp only[Ob.back,Ob.Rel]at *;obtain⟨h1,h2,b,ms,h3,h4,h5⟩:=h;have:=hβ id h1;exact⟨this.live ▸ h1,this.box ▸ h2,b,ms,this.blk ▸ h3,h4,h5.mono (Keep.refl _ w) hN⟩
 |stk e ei u rows top =>
  simp only[Ob.back,Ob.Rel]at *;obtain⟨h1,h2,h3,h4,h5,b,cur,cs,cs2,bs,k1,k2,k3,k4,k5,k6,k7,k8,k9,k10,k11⟩:=h;have:=hβ id h1;obtain⟨g1,g2,g3,g4⟩:=this.row h2;exact⟨this.live ▸ h1,this.box ▸ h2,by omega,by rw[g2,h4],by rw[g4,h5,zGh],b,cur,cs,cs2,bs,this.blk ▸ k1,k2,by rw[g3];exact k3,by rw[g3,g4];exact k4,by rw[g3];exact k5,by rw[this.sub h2];exact k6,k7,k8,k9,k10.imp _ λls cs _ hl=>hl.back hβ hN,by rw[g4];exact k11⟩
end
def dV(P:Program)(f:FuncId)(si so:Sh)(F:si.X->Option so.X):Prop :=
 iK P f=true/\∀ x y,F x=some y->∀ (C:Ctx) (β:Nat->Pl) (w:World) (xs:List Value),C.P=P->C.fix.length<=si.os.length->Sim C β (si.enc x) { tmps:=xs.toArray,defers:=[] } w ->
  Calls P f xs.toArray w λe w'=>∃ (us:List Value) (β':Nat->Pl),e=.returned (sP us)/\Sim C β' (so.enc y) { tmps:=us.toArray,defers:=[] } w'
def zVb:List V->Option (List (Sum L (List L)))
 |[]=>some []
 |v::r=>match v.sum,zVb r with
  |some s,some ss=>some (s::ss)
  |_,_=>none
def zYh(vs:List V):V :=
 match zVb vs with
 |some ss=>yXf ss
 |none=>.cK
def Yr(g:Nat->Option Ob):Nat->List Ob->List Ob
 |_,[]=>[]
 |i,o::r=>(match g i with|some o'=>o'|none=>o)::Yr g (i+1) r
def Ba (f v:Nat->Nat):Nat->List Ob->List Ob | _,[]=>[] | j,o :: r=>o.back f v j :: Ba f v (j+1) r
def vQ:List Ob->List OS->Bool | [],_=>true | .box .. :: r,_ :: s=>vQ r s | .fm .. :: r,_ :: s=>vQ r s | .dm .. :: r,_ :: s=>vQ r s | .arr .. :: r,.row .. :: s=>vQ r s | .stk .. :: r,.stk .. :: s=>vQ r s | _,_=>false
def lS(ρ:List Nat)(n:Nat)(j:Nat):Nat:=match ρ[j]? with|some i=>i|none=>n+(j-ρ.length)
def jX(ρ:List Nat)(h:List Ob)(j:Nat):Nat:=match ρ[j]? with
 |some i=>(match h[i]? with|some (.arr _ _ u _ _)=>u+1|some (.stk _ _ u _ _)=>u+1|_=>0)
 |none=>0
def gD(ρ:List Nat)(h hy:List Ob):List Ob :=
 Yr (λi=>match pos i ρ 0 with|some j=>(match hy[j]? with|some o=>some (o.back (lS ρ h.length) (jX ρ h) j)|none=>none)|none=>none) 0 h++Ba (lS ρ h.length) (jX ρ h) ρ.length (hy.drop ρ.length)
def zEp (ρ:List Nat) (h:List Ob) (si so:Sh):Bool :=nodupB ρ&&(dF (fun i=>Nat.blt i h.length) ρ&&(vF ρ.length si.os.length&&(dF Ob.wr (inH ρ h)&&vQ (inH ρ h) so.os)))
def peM(si so:Sh)(F:si.X->Option so.X):PE where
 R:=so.X
 use:=3
 run vs h:=match si.dec ⟨vs.map (V.ren (reach vs h) h),inH (reach vs h) h⟩with
  |some x=>some (zEp (reach vs h) h si so,F x)
  |none=>none
 enc y vs h:=(zYh ((so.enc y).r.map (V.back (lS (reach vs h) h.length) (jX (reach vs h) h))),gD (reach vs h) h (so.enc y).h)
theorem zRw{g:Nat->Option Ob}:∀ {h:List Ob}{n i:Nat},(Yr g n h)[i]?=(h[i]?).map λo=>(match g (n+i) with|some o'=>o'|none=>o)
 |[],n,i=>by simp[Yr]
 |o::r,n,0=>by simp[Yr]
 |o::r,n,i+1=>by
  simp only[Yr,qEa];rw[zRw (h:=r),show n+1+i=n+(i+1)by omega]
theorem Jl{g:Nat->Option Ob}:∀ {h:List Ob}{n:Nat},(Yr g n h).length=h.length
 |[],_=>rfl
 |_::r,n=>congrArg (· + 1) (Jl (h:=r) (n:=n+1))
theorem zLd{f v:Nat->Nat}:∀ {h:List Ob}{n i:Nat},(Ba f v n h)[i]?=(h[i]?).map λo=>o.back f v (n+i)
 |[],n,i=>by simp[Ba]
 |o::r,n,0=>by simp[Ba]
 |o::r,n,i+1=>by
  simp only[Ba,qEa];rw[zLd (h:=r),show n+1+i=n+(i+1)by omega]
theorem zCa{f v:Nat->Nat}:∀ {h:List Ob}{n:Nat},(Ba f v n h).length=h.length
 |[],_=>rfl
 |_::r,n=>congrArg (· + 1) (zCa (h:=r) (n:=n+1))
theorem Ob.zLe{f v:Nat->Nat}{j:Nat}(o:Ob):(o.back f v j).tQ=o.tQ:=by cases o<;>rfl
theorem Ob.Qj{f v:Nat->Nat}{j:Nat}(o:Ob):(o.back f v j).wr=o.wr:=by cases o<;>rfl
theorem Cz:∀ {hc:List Ob}{os:List OS}{j:Nat}{e:TypeId}{t:Ty}{u:Nat}{rows:List t.den}{wr:Bool},vQ hc os=true->hc[j]?=some (.arr e t u rows wr)->∃ e' t',os[j]?=some (.row e' t')
 |[],_,j,_,_,_,_,_,_,h=>by simp at h
 |.box .. :: r,[],j,_,_,_,_,_,hk,_=>by cases hk
 |.box .. :: r,s::os,0,_,_,_,_,_,_,h=>by simp at h
 |.box .. :: r,s::os,j+1,_,_,_,_,_,hk,h=>by
  obtain⟨e',t',h'⟩:=Cz (hc:=r) (os:=os) (j:=j) hk (by simpa using h);exact⟨e',t',by simpa using h'⟩
 |.fm .. :: r,[],j,_,_,_,_,_,hk,_=>by cases hk
 |.fm .. :: r,s::os,0,_,_,_,_,_,_,h=>by simp at h
 |.fm .. :: r,s::os,j+1,_,_,_,_,_,hk,h=>by
  obtain⟨e',t',h'⟩:=Cz (hc:=r) (os:=os) (j:=j) hk (by simpa using h);exact⟨e',t',by simpa using h'⟩
 |.dm .. :: r,[],j,_,_,_,_,_,hk,_=>by cases hk
 |.dm .. :: r,s::os,0,_,_,_,_,_,_,h=>by simp at h
 |.dm .. :: r,s::os,j+1,_,_,_,_,_,hk,h=>by
  obtain⟨e',t',h'⟩:=Cz (hc:=r) (os:=os) (j:=j) hk (by simpa using h);exact⟨e',t',by simpa using h'⟩
 |.stk .. :: r,[],j,_,_,_,_,_,hk,_=>by cases hk
 |.stk .. :: r,.box .. :: os,j,_,_,_,_,_,hk,_=>by cases hk
 |.stk .. :: r,.row .. :: os,j,_,_,_,_,_,hk,_=>by cases hk
 |.stk .. :: r,.fm .. :: os,j,_,_,_,_,_,hk,_=>by cases hk
 |.stk .. :: r,.dm .. :: os,j,_,_,_,_,_,hk,_=>by cases hk
 |.stk .. :: r,.stk .. :: os,0,_,_,_,_,_,_,h=>by simp at h
 |.stk .. :: r,.stk .. :: os,j+1,_,_,_,_,_,hk,h=>by
  obtain⟨e',t',h'⟩:=Cz (hc:=r) (os:=os) (j:=j) hk (by simpa using h);exact⟨e',t',by simpa using h'⟩
 |.arr .. :: r,.stk .. :: os,j,_,_,_,_,_,hk,_=>by cases hk
 |.arr .. :: r,.fm .. :: os,j,_,_,_,_,_,hk,_=>by cases hk
 |.arr .. :: r,.dm .. :: os,j,_,_,_,_,_,hk,_=>by cases hk
 |.arr .. :: r,[],j,_,_,_,_,_,hk,_=>by cases hk
 |.arr .. :: r,.box .. :: os,j,_,_,_,_,_,hk,_=>by cases hk
 |.arr .. :: r,.row e t::os,0,_,_,_,_,_,_,_=>⟨e,t,rfl⟩
 |.arr .. :: r,.row e t::os,j+1,_,_,_,_,_,hk,h=>by
  obtain⟨e',t',h'⟩:=Cz (hc:=r) (os:=os) (j:=j) hk (by simpa using h);exact⟨e',t',by simpa using h'⟩
theorem Ls{A:Type}:∀ {os:List OS}{x:OTs os A}{j:Nat}{e:TypeId}{t:Ty},os[j]?=some (.row e t)->∃ rows,(fT os x).1[j]?=some (.arr e t 0 rows true)
 |[],_,j,_,_,h=>by simp at h
 |.box e0 ls::r,x,0,_,_,h=>by simp at h
 |.box e0 ls::r,x,j+1,e,t,h=>by
  obtain⟨rows,h'⟩:=Ls (os:=r) (x:=(fQ ls x).2) (j:=j) (by simpa using h);exact⟨rows,by simpa [fT]using h'⟩
 |.fm tab::r,x,0,_,_,h=>by simp at h
 |.fm tab::r,x,j+1,e,t,h=>by
  obtain⟨rows,h'⟩:=Ls (os:=r) (x:=x) (j:=j) (by simpa using h);exact⟨rows,by simpa [fT]using h'⟩
 |.dm kt vt::r,x,0,_,_,h=>by simp at h
 |.dm kt vt::r,x,j+1,e,t,h=>by
  obtain⟨rows,h'⟩:=Ls (os:=r) (x:=x.2) (j:=j) (by simpa using h);exact⟨rows,by simpa [fT]using h'⟩
 |.stk e0 ei::r,x,0,_,_,h=>by simp at h
 |.stk e0 ei::r,x,j+1,e,t,h=>by
  obtain⟨rows,h'⟩:=Ls (os:=r) (x:=x.2) (j:=j) (by simpa using h);exact⟨rows,by simpa [fT]using h'⟩
 |.row e0 t0::r,x,0,e,t,h=>by
  simp only[qAi,aA,OS.row.injEq]at h;obtain⟨rfl,rfl⟩:=h;exact⟨x.1,rfl⟩
 |.row e0 t0::r,x,j+1,e,t,h=>by
  obtain⟨rows,h'⟩:=Ls (os:=r) (x:=x.2) (j:=j) (by simpa using h);exact⟨rows,by simpa [fT]using h'⟩
theorem Da:∀ {hc:List Ob}{os:List OS}{j:Nat}{e ei:TypeId}{u:Nat}{rows:List (Int × Int × List Int × List Int × Unit)}{top:Option (List L)},vQ hc os=true->hc[j]?=some (.stk e ei u rows top)->∃ e' ei',os[j]?=some (.stk e' ei')
 |[],_,j,_,_,_,_,_,_,h=>by simp at h
 |.box .. :: r,[],j,_,_,_,_,_,hk,_=>by cases hk
 |.box .. :: r,s::os,0,_,_,_,_,_,_,h=>by simp at h
 |.box .. :: r,s::os,j+1,_,_,_,_,_,hk,h=>by
  obtain⟨e',t',h'⟩:=Da (hc:=r) (os:=os) (j:=j) hk (by simpa using h);exact⟨e',t',by simpa using h'⟩
 |.fm .. :: r,[],j,_,_,_,_,_,hk,_=>by cases hk
 |.fm .. :: r,s::os,0,_,_,_,_,_,_,h=>by simp at h
 |.fm .. :: r,s::os,j+1,_,_,_,_,_,hk,h=>by
  obtain⟨e',t',h'⟩:=Da (hc:=r) (os:=os) (j:=j) hk (by simpa using h);exact⟨e',t',by simpa using h'⟩
 |.dm .. :: r,[],j,_,_,_,_,_,hk,_=>by cases hk
 |.dm .. :: r,s::os,0,_,_,_,_,_,_,h=>by simp at h
 |.dm .. :: r,s::os,j+1,_,_,_,_,_,hk,h=>by
  obtain⟨e',t',h'⟩:=Da (hc:=r) (os:=os) (j:=j) hk (by simpa using h);exact⟨e',t',by simpa using h'⟩
 |.arr .. :: r,[],j,_,_,_,_,_,hk,_=>by cases hk
 |.arr .. :: r,.box .. :: os,j,_,_,_,_,_,hk,_=>by cases hk
 |.arr .. :: r,.fm .. :: os,j,_,_,_,_,_,hk,_=>by cases hk
 |.arr .. :: r,.dm .. :: os,j,_,_,_,_,_,hk,_=>by cases hk
 |.arr .. :: r,.stk .. :: os,j,_,_,_,_,_,hk,_=>by cases hk
 |.stk .. :: r,[],j,_,_,_,_,_,hk,_=>by cases hk
 |.stk .. :: r,.box .. :: os,j,_,_,_,_,_,hk,_=>by cases hk
 |.stk .. :: r,.row .. :: os,j,_,_,_,_,_,hk,_=>by cases hk
 |.stk .. :: r,.fm .. :: os,j,_,_,_,_,_,hk,_=>by cases hk
 |.stk .. :: r,.dm .. :: os,j,_,_,_,_,_,hk,_=>by cases hk
 |.arr .. :: r,.row .. :: os,0,_,_,_,_,_,_,h=>by simp at h
 |.arr .. :: r,.row .. :: os,j+1,_,_,_,_,_,hk,h=>by
  obtain⟨e',t',h'⟩:=Da (hc:=r) (os:=os) (j:=j) hk (by simpa using h);exact⟨e',t',by simpa using h'⟩
 |.stk .. :: r,.stk e ei::os,0,_,_,_,_,_,_,_=>⟨e,ei,rfl⟩
 |.stk .. :: r,.stk .. :: os,j+1,_,_,_,_,_,hk,h=>by
  obtain⟨e',t',h'⟩:=Da (hc:=r) (os:=os) (j:=j) hk (by simpa using h);exact⟨e',t',by simpa using h'⟩
theorem Lu{A:Type}:∀ {os:List OS}{x:OTs os A}{j:Nat}{e ei:TypeId},os[j]?=some (.stk e ei)->∃ rows,(fT os x).1[j]?=some (.stk e ei 0 rows none)
 |[],_,j,_,_,h=>by simp at h
 |.box e0 ls::r,x,0,_,_,h=>by simp at h
 |.box e0 ls::r,x,j+1,e,t,h=>by
  obtain⟨rows,h'⟩:=Lu (os:=r) (x:=(fQ ls x).2) (j:=j) (by simpa using h);exact⟨rows,by simpa [fT]using h'⟩
 |.fm tab::r,x,0,_,_,h=>by simp at h
 |.fm tab::r,x,j+1,e,t,h=>by
  obtain⟨rows,h'⟩:=Lu (os:=r) (x:=x) (j:=j) (by simpa using h);exact⟨rows,by simpa [fT]using h'⟩
 |.dm kt vt::r,x,0,_,_,h=>by simp at h
 |.dm kt vt::r,x,j+1,e,t,h=>by
  obtain⟨rows,h'⟩:=Lu (os:=r) (x:=x.2) (j:=j) (by simpa using h);exact⟨rows,by simpa [fT]using h'⟩
 |.row e0 t0::r,x,0,_,_,h=>by simp at h
 |.row e0 t0::r,x,j+1,e,t,h=>by
  obtain⟨rows,h'⟩:=Lu (os:=r) (x:=x.2) (j:=j) (by simpa using h);exact⟨rows,by simpa [fT]using h'⟩
 |.stk e0 t0::r,x,0,e,t,h=>by
  simp only[qAi,aA,OS.stk.injEq]at h;obtain⟨rfl,rfl⟩:=h;exact⟨x.1,rfl⟩
 |.stk e0 t0::r,x,j+1,e,t,h=>by
  obtain⟨rows,h'⟩:=Lu (os:=r) (x:=x.2) (j:=j) (by simpa using h);exact⟨rows,by simpa [fT]using h'⟩
theorem Qk{A:Type}:∀ {os:List OS}{x:OTs os A}{j:Nat}{o:Ob},(fT os x).1[j]?=some o->o.wr=true
 |[],_,j,_,h=>by simp[fT]at h
 |.box e0 ls::r,x,0,_,h=>by simp only[fT,qAi,aA]at h;subst h;rfl
 |.box e0 ls::r,x,j+1,o,h=>Qk (os:=r) (x:=(fQ ls x).2) (j:=j) (by simpa [fT]using h)
 |.fm tab::r,x,0,_,h=>by simp only[fT,qAi,aA]at h;subst h;rfl
 |.fm tab::r,x,j+1,o,h=>Qk (os:=r) (x:=x) (j:=j) (by simpa [fT]using h)
 |.dm kt vt::r,x,0,_,h=>by simp only[fT,qAi,aA]at h;subst h;rfl
 |.dm kt vt::r,x,j+1,o,h=>Qk (os:=r) (x:=x.2) (j:=j) (by simpa [fT]using h)
 |.stk e0 ei::r,x,0,_,h=>by simp only[fT,qAi,aA]at h;subst h;rfl
 |.stk e0 ei::r,x,j+1,o,h=>Qk (os:=r) (x:=x.2) (j:=j) (by simpa [fT]using h)
 |.row e0 t0::r,x,0,_,h=>by simp only[fT,qAi,aA]at h;subst h;rfl
 |.row e0 t0::r,x,j+1,o,h=>Qk (os:=r) (x:=x.2) (j:=j) (by simpa [fT]using h)
theorem yAs{β:Nat->Pl}{w:World}{N:Nat->Nat->Prop}:∀ {vs:List V}{us:List Value}{ss:List (Sum L (List L))},zVb vs=some ss->bJ (λv u=>V.Rel β w N v u) vs us->bJ (jM β w N) ss us
 |[],[],ss,h,_=>by simp only[zVb,aA]at h;subst h;trivial
 |v::vs,u::us,ss,h,hr=>by
  simp only[zVb]at h;split at h
  ·rename_i s ss' h1 h2;simp only[aA]at h;subst h;exact⟨V.zYg h1 hr.1,yAs h2 hr.2⟩
  ·cases h
 |[],_::_,_,_,hr=>hr.elim
 |_::_,[],_,_,hr=>hr.elim
theorem zRx{β:Nat->Pl}{w:World}{N:Nat->Nat->Prop}{vs:List V}{us:List Value}(hr:bJ (λv u=>V.Rel β w N v u) vs us):(zYh vs).Rel β w N (sP us):=by
 unfold zYh;split
 ·rename_i ss h;exact yFd (yAs h hr)
 ·trivial
theorem yLi{α γ:Type}{R:α->γ->Prop}:∀ {x:List α}{y:List γ},x.length=y.length->(∀ (i:Nat) (a:α) (b:γ),x[i]?=some a->y[i]?=some b->R a b)->bJ R x y
 |[],[],_,_=>trivial
 |a::x,b::y,hl,h=>⟨h 0 a b rfl rfl,yLi (by simpa using hl) λi c d hc hd=>h (i+1) c d (by simpa using hc) (by simpa using hd)⟩
 |[],_::_,hl,_=>by simp at hl
 |_::_,[],hl,_=>by simp at hl
end Go.Dec
namespace Go.Dec
section
variable {P:Program}{f:FuncId}{si so:Sh}{F:si.X->Option so.X}
theorem zDa{ρ:List Nat}{h:List Ob}(hc:zEp ρ h si so=true):nodupB ρ=true/\(∀ i∈ρ,i<h.length)/\ρ.length=si.os.length/\(∀ (j:Nat) (o:Ob),(inH ρ h)[j]?=some o->o.wr=true)/\vQ (inH ρ h) so.os=true:=by
 simp only[zEp,aD]at hc;obtain⟨h1,h2,h3,h4,h5⟩:=hc;refine⟨h1,λi hi=>?_,aP h3,λj o ho=>yN h4 j o ho,h5⟩;obtain⟨n,hn⟩:=qEp hi;exact bX (yN h2 n i hn)
def Ef:Ob->Bool | .box ..=>true | .arr ..=>false | .fm _=>true | .dm ..=>true | .stk ..=>false
def Nj(β:Nat->Pl)(h:List Ob)(i:Nat):Option Nat:=match Ef (zGp h i) with|true=>(β i).blk|false=>none
def inC(C:Ctx)(β:Nat->Pl)(h:List Ob)(w:World)(ρ:List Nat)(hs:fC C β h w):Ctx where
 P:=C.P
 N0 b j:=C.N β h b j/\∀ i∈ρ,∀ o,h[i]?=some o->¬ o.blks (β i) b
 w0:=w
 Uv b j:=∃ (i:Nat) (o:Ob),i∈ρ/\h[i]?=some o/\o.wr=true/\o.at (β i) b j
 glob w' hw:=C.glob w' (hs.frame.uJ hw λb j hb hm=>by
  obtain⟨i,o,_,ho,hwo,hbk⟩:=hm;rcases(hs.eZ i o b ho ⟨j,hbk⟩).2.2 with h1|h1
  ·omega
  ·exact h1 j hwo hbk)
 fix:=ρ.map (Nj β h)
theorem yFe{C:Ctx}{β:Nat->Pl}{w:World}{h:List Ob}{ρ:List Nat}{vs:List V}{xs:List Value}(hs:fC C β h w)(ha:rO β w (C.N β h) vs xs)(hnd:nodupB ρ=true)(hlt:∀ i∈ρ,i<h.length):Sim (inC C β h w ρ hs) (Qg β ρ) ⟨vs.map (V.ren ρ h),inH ρ h⟩ { tmps:=xs.toArray,defers:=[] } w:=by
 have zRr:=yEm hs hlt;have hget:∀ i∈ρ,∃ o,h[i]?=some o:=λi hi=>⟨h[i]'(hlt i hi),by simp[hlt i hi]⟩
 have hβ:∀ {j i:Nat},ρ[j]?=some i->Qg β ρ j={ β i with ver:=0 }:=λhi=>by simp only[Qg,hi]
 have hNw:∀ b j,C.N β h b j->b<w.heap.size:=λb j hb=>by
  rcases hb with hb|⟨id,o,ho,_,hbk⟩
  ·exact wD (hs.n0 b j hb) hs.size
  ·exact(hs.eZ id o b ho ⟨j,hbk⟩).2.1
 have hN:∀ b j,b<w.heap.size->(inC C β h w ρ hs).N (Qg β ρ) (inH ρ h) b j->C.N β h b j:=λb k _ hb=>by
  rcases hb with hb|⟨j,o,ho,hw,hbk⟩
  ·exact hb.1
  ·obtain⟨i,hi,rfl⟩:=Cx ho;obtain⟨o',ho'⟩:=hget i (qDk hi);rw[gV ho',Ob.zKq]at hw;rw[gV ho',hβ hi]at hbk;exact .inr ⟨i,o',ho',hw,Ob.zV (Ob.Au ρ h o') rfl rfl hbk⟩
 refine⟨⟨?_,?_,?_,?_,λb j hb=>hNw b j hb.1,Keep.refl _ _,aS _,rfl,rfl,rfl,?_⟩,rfl,by simpa using bJ.length ha,?_⟩
 ·intro j o ho;obtain⟨i,hi,rfl⟩:=Cx ho;obtain⟨o',ho'⟩:=hget i (qDk hi);rw[gV ho',hβ hi];have hob:=hs.obj i o' ho';cases o' with
  |box e ls =>
   simp only[Ob.ren,Ob.Rel]at *;obtain⟨h1,h2,b,cs,h3,h4,h5⟩:=hob;exact⟨h1,h2,b,cs,h3,h4.Il zRr hN,h5⟩
  |arr e t v rows wr =>
   simp only[Ob.ren,Ob.Rel]at *;obtain⟨h1,h2,h3,h4,h5,h6,h7⟩:=hob;refine⟨h1,h2,trivial,h4,h5,h6,?_⟩;rcases h7 with h7|⟨b,cur,css,k1,k2,k3,k4⟩
   ·exact .inl h7
   ·exact .inr ⟨b,cur,css,k1,k2,k3.mono λ_ _ h=>h.mono (Keep.refl _ w) hN,k4⟩
  |fm tab=>simp only[Ob.ren,Ob.Rel]at *;exact hob
  |dm kt vt es =>
   simp only[Ob.ren,Ob.Rel]at *;obtain⟨h1,h2,b,ms,h3,h4,h5⟩:=hob;exact⟨h1,h2,b,ms,h3,h4,h5.mono (Keep.refl _ w) hN⟩
  |stk e ei v rows top =>
   simp only[Ob.ren,Ob.Rel]at *;obtain⟨g1,g2,g3,g4,g5,b,cur,cs,cs2,bs,k1,k2,k3,k4,k5,k6,k7,k8,k9,k10,k11⟩:=hob;exact⟨g1,g2,trivial,g4,by rw[zGh];exact g5,b,cur,cs,cs2,bs,k1,k2,k3,k4,k5,k6,k7,k8,k9,k10.imp _ λls cs _ hl=>hl.Il zRr hN,k11⟩
 ·intro j hj;simp only[inH,List.length_map]at hj;simp only[Qg,qAu hj]
 ·intro i j o1 o2 b h1 h2 hb1 hb2;obtain⟨i',hi,rfl⟩:=Cx h1;obtain⟨j',hj,rfl⟩:=Cx h2;obtain⟨o1',ho1⟩:=hget i' (qDk hi);obtain⟨o2',ho2⟩:=hget j' (qDk hj);rw[hβ hi,gV ho1]at hb1;rw[hβ hj,gV ho2]at hb2;have:=hs.kX i' j' o1' o2' b ho1 ho2 (Ob.mQ (Ob.Au ρ h o1') rfl rfl hb1) (Ob.mQ (Ob.Au ρ h o2') rfl rfl hb2);subst this;exact Ws hnd hi hj
 ·intro j o b ho hb;obtain⟨i,hi,rfl⟩:=Cx ho;obtain⟨o',ho'⟩:=hget i (qDk hi);rw[gV ho',hβ hi]at hb ⊢;have hb':=Ob.mQ (o':=o') (p':=β i) (Ob.Au ρ h o') rfl rfl hb;exact⟨λk hn=>hn.2 i (qDk hi) o' ho' hb',(hs.eZ i o' b ho' hb').2.1,.inr λk hw hk=>⟨i,o',qDk hi,ho',by rw[Ob.zKq]at hw;exact hw,Ob.zV (Ob.Au ρ h o') rfl rfl hk⟩⟩
 ·intro j o hj;simp only[inC,qBx,qBu]at hj;obtain⟨i,hi,rfl⟩:=hj;refine⟨by simpa [inH]using(bK.1 hi).1,λb hb=>?_⟩;obtain⟨o',ho'⟩:=hget i (qDk hi);have hob:=hs.obj i o' ho';rw[hβ hi];unfold Nj at hb;rw[gV ho']at hb;cases o' with
  |box e ls =>
   simp only[Ob.Rel]at hob;exact⟨hb,hob.2.1⟩
  |arr e t v rows wr=>cases hb
  |stk e ei v rows top=>cases hb
  |fm tab =>
   simp only[Ob.Rel]at hob;exact⟨hb,hob.2.1⟩
  |dm kt vt es =>
   simp only[Ob.Rel]at hob;exact⟨hb,hob.2.1⟩
 ·intro i v hv;simp only[qBx,qBu]at hv;obtain⟨v0,hv0,rfl⟩:=hv;have hl:i<xs.length:=by rw[<- bJ.length ha];exact(bK.1 hv0).1
  have hr:=ha.get i (bK.1 hv0).1 hl;have e:vs[i]'(bK.1 hv0).1=v0:=(bK.1 hv0).2;rw[e]at hr;have e2:(xs.toArray).getD i undef=xs[i]:=by simp[hl]
  simp only[e2];exact hr.Il zRr hN
def qP(β β':Nat->Pl)(ρ:List Nat)(h:List Ob):Nat->Pl:=λi =>
 match pos i ρ 0 with
 |some j=>match Ef (zGp h i)with
  |true=>β i
  |false=>{ β' j with ver:=(β' j).ver+jX ρ h j }
 |none=>if i<h.length then β i else β' (i-h.length+ρ.length)
theorem zDb{ρ:List Nat}{h hy:List Ob}(hk:ρ.length<=hy.length){id:Nat}{o:Ob}(ho:(gD ρ h hy)[id]?=some o):(id<h.length/\pos id ρ 0=none/\h[id]?=some o)\/(∃ j ob oy,id<h.length/\ρ[j]?=some id/\pos id ρ 0=some j/\h[id]?=some ob/\hy[j]?=some oy/\o=oy.back (lS ρ h.length) (jX ρ h) j) \/
  ∃ j oy,ρ.length<=j/\id=h.length+(j-ρ.length)/\hy[j]?=some oy/\o=oy.back (lS ρ h.length) (jX ρ h) j:=by
 unfold gD at ho;by_cases hid:id<h.length
 ·rw[fU (by rw[Jl];exact hid),zRw,yY]at ho;obtain⟨ob,hob⟩:∃ ob,h[id]?=some ob:=⟨h[id],by simp[hid]⟩;rw[hob]at ho;simp only[kU,aA]at ho;cases hp:pos id ρ 0 with
  |none =>
   rw[hp]at ho;simp only at ho;exact .inl ⟨hid,rfl,by rw[hob,ho]⟩
  |some j =>
   obtain⟨m,hm,hi⟩:=Ky hp;rw[yY]at hm;subst hm;have hj:j<hy.length:=wD (bK.1 hi).1 hk;have hyj:hy[j]?=some hy[j]:=by simp[hj]
   rw[hp]at ho;simp only[hyj]at ho;exact .inr (.inl ⟨j,ob,hy[j],hid,hi,rfl,hob,hyj,ho.symm⟩)
 ·rw[yZ (by rw[Jl];omega),Jl,zLd,List.getElem?_drop]at ho;simp only[qBu]at ho;obtain⟨oy,h1,h2⟩:=ho;exact .inr (.inr ⟨ρ.length+(id-h.length),oy,by omega,by omega,h1,h2.symm⟩)
theorem zEq{ρ:List Nat}{h hy:List Ob}:(gD ρ h hy).length=h.length+(hy.length-ρ.length):=by
 simp[gD,Jl,zCa]
theorem zHf{C:Ctx}{β:Nat->Pl}{h:List Ob}{w w':World}{ρ:List Nat}(hs:fC C β h w)(hnd:nodupB ρ=true)(hlt:∀ i∈ρ,i<h.length)(hwr:∀ (j:Nat) (o:Ob),(inH ρ h)[j]?=some o->o.wr=true)(Jm:vQ (inH ρ h) so.os=true){y:so.X}{us:List Value}{β':Nat->Pl}(hs':Sim (inC C β h w ρ hs) β' (so.enc y) { tmps:=us.toArray,defers:=[] } w'):∃ β2,Moves β β2/\Keep (C.N β h) w w'/\(∀ b j,b<w.heap.size->C.N β2 (gD ρ h (so.enc y).h) b j->C.N β h b j)/\fC C β2 (gD ρ h (so.enc y).h) w' /\
  bJ (λv u=>V.Rel β2 w' (C.N β2 (gD ρ h (so.enc y).h)) v u) ((so.enc y).r.map (V.back (lS ρ h.length) (jX ρ h))) us:=by
 generalize hhy:(so.enc y).h=hy at *;have hget:∀ i∈ρ,∃ o,h[i]?=some o:=λi hi=>⟨h[i]'(hlt i hi),by simp[hlt i hi]⟩
 have hfix:∀ {j i:Nat},ρ[j]?=some i->j<hy.length/\∀ b,Nj β h i=some b->(β' j).blk=some b/\(β' j).box=true:=λ{j i} hi=>by
  have:=hs'.heap.fixed j (Nj β h i) (by simp[inC,hi]);rw[hhy]at this;exact this
 have hk:ρ.length<=hy.length:=by
  rcases jF hy.length ρ.length with h1|h1
  ·have:=(hfix (j:=hy.length) (i:=ρ[hy.length]) (by simp[h1])).1;omega
  ·exact h1
 have xNm:∀ i∈ρ,∀ o,h[i]?=some o->o.wr=true:=λi hi o ho=>by
  obtain⟨n,hn⟩:=qEp hi;have:=hwr n ((zGp h i).ren ρ h) (by simp[inH,hn]);rw[Ob.zKq,gV ho]at this;exact this
 have hrow:∀ {j i:Nat}{o:Ob},ρ[j]?=some i->h[i]?=some o->Ef o=false->∃ oy,hy[j]?=some oy/\Ef oy=false:=λ{j i o} hi ho hb=>by
  cases o with
  |box e ls=>cases hb
  |fm tab=>cases hb
  |dm=>cases hb
  |stk e ei u rows top =>
   obtain⟨e',ei',hrw⟩:=Da (j:=j) (e:=e) (ei:=ei) (u:=0) (rows:=rows) (top:=top.map (L.Qc ρ h)) Jm (by simp[inH,hi,gV ho,Ob.ren]);obtain⟨rows',hr'⟩:=Lu (A:=Unit) (x:=(Wt so.rs (qAf so.n .cK) y).2) hrw;exact⟨_,by rw[<- hhy];exact hr',rfl⟩
  |arr e t u rows wr =>
   obtain⟨e',t',hrw⟩:=Cz (j:=j) (e:=e) (t:=t) (u:=0) (rows:=rows) (wr:=wr) Jm (by simp[inH,hi,gV ho,Ob.ren]);obtain⟨rows',hr'⟩:=Ls (A:=Unit) (x:=(Wt so.rs (qAf so.n .cK) y).2) hrw;exact⟨_,by rw[<- hhy];exact hr',rfl⟩
 have zRy:=hs'.heap.obj;rw[hhy]at zRy;have yTd:∀ j,hy.length<=j->(β' j).live=false:=λj hj=>hs'.heap.dead j (by rw[hhy];exact hj)
 have zEr:=hs'.heap.eZ;rw[hhy]at zEr;have yLj:=hs'.heap.kX;rw[hhy]at yLj;have yOw:∀ {j i:Nat}{o:Ob},ρ[j]?=some i->h[i]?=some o->Ef o=true->(β' j).box=true/\(β' j).blk=(β i).blk/\(β i).box=true/\(β i).live=true/\(β' j).live=true:=λ{j i o} hi ho hb=>by
  have hob:=hs.obj i o ho;obtain⟨hj,hfx⟩:=hfix hi;cases o with
  |arr=>cases hb
  |stk=>cases hb
  |dm kt vt es =>
   simp only[Ob.Rel]at hob;obtain⟨k1,k2,b,ms,k3,_⟩:=hob;have hfo:Nj β h i=some b:=by simp only[Nj,gV ho,Ef,k3]
   obtain⟨g1,g2⟩:=hfx b hfo;exact⟨g2,by rw[g1,k3],k2,k1,(zRy j hy[j] (by simp[hj])).live⟩
  |fm tab =>
   simp only[Ob.Rel]at hob;obtain⟨k1,k2,b,es,n,k3,_⟩:=hob;have hfo:Nj β h i=some b:=by simp only[Nj,gV ho,Ef,k3]
   obtain⟨g1,g2⟩:=hfx b hfo;exact⟨g2,by rw[g1,k3],k2,k1,(zRy j hy[j] (by simp[hj])).live⟩
  |box e ls =>
   simp only[Ob.Rel]at hob;obtain⟨k1,k2,b,cs,k3,_⟩:=hob;have hfo:Nj β h i=some b:=by simp only[Nj,gV ho,Ef,k3]
   obtain⟨g1,g2⟩:=hfx b hfo;exact⟨g2,by rw[g1,k3],k2,k1,(zRy j hy[j] (by simp[hj])).live⟩
 have yXh:∀ {j i:Nat}{o:Ob},ρ[j]?=some i->h[i]?=some o->Ef o=true->qP β β' ρ h i=β i:=λhi ho hb=>by
  simp only[qP,yLa hnd hi,gV ho,hb]
 have yXi:∀ {j i:Nat}{o:Ob},ρ[j]?=some i->h[i]?=some o->Ef o=false->qP β β' ρ h i={ β' j with ver:=(β' j).ver+jX ρ h j }:=λhi ho hb=>by
  simp only[qP,yLa hnd hi,gV ho,hb]
 have yOx:∀ {i:Nat},pos i ρ 0=none->i<h.length->qP β β' ρ h i=β i:=λhp hi=>by
  simp only[qP,hp,if_pos hi]
 have xAo:∀ {i:Nat},h.length<=i->pos i ρ 0=none:=λ{i} hi=>by
  cases hp:pos i ρ 0 with
  |none=>rfl
  |some j =>
   obtain⟨m,_,hm⟩:=Ky hp;have:=hlt i (qDk hm);omega
 have xFf:∀ {j:Nat},ρ.length<=j->qP β β' ρ h (h.length+(j-ρ.length))=β' j:=λ{j} hj=>by
  simp only[qP,xAo (Nat.le_add_right _ _)];rw[if_neg (by omega)];congr 1;omega
 have eF:∀ {j i:Nat},ρ[j]?=some i->lS ρ h.length j=i:=λhi=>by simp only[lS,hi]
 have eF2:∀ {j:Nat},ρ.length<=j->lS ρ h.length j=h.length+(j-ρ.length):=λhj=>by simp only[lS,qAu hj]
 have eU2:∀ {j:Nat},ρ.length<=j->jX ρ h j=0:=λhj=>by simp only[jX,qAu hj]
 have hpl:∀ j,(β' j).live=true->zLc (β' j) (qP β β' ρ h (lS ρ h.length j)) (jX ρ h j):=λj hl=>by
  have hj:j<hy.length:=by
   rcases jF j hy.length with h1|h1
   ·exact h1
   ·rw[yTd j h1]at hl;cases hl
  cases hi:ρ[j]? with
  |some i =>
   rw[eF hi];obtain⟨o,ho⟩:=hget i (qDk hi);cases hb:Ef o with
   |true =>
    obtain⟨g1,g2,g3,g4,g5⟩:=yOw hi ho hb;rw[yXh hi ho hb];exact⟨by rw[g4,hl],by rw[g3,g1],g2.symm,λh=>(by rw[g1]at h;cases h),λh=>(by rw[g1]at h;cases h)⟩
   |false =>
    rw[yXi hi ho hb];exact⟨rfl,rfl,rfl,λ_=>⟨rfl,rfl,rfl,rfl⟩,λ_=>rfl⟩
  |none =>
   have hge:ρ.length<=j:=List.getElem?_eq_none_iff.1 hi;rw[eF2 hge,xFf hge,eU2 hge];exact⟨rfl,rfl,rfl,λ_=>⟨rfl,rfl,rfl,rfl⟩,λ_=>rfl⟩
 have hown:∀ {b k:Nat},(inC C β h w ρ hs).Uv b k->∃ (i:Nat) (o:Ob),i∈ρ/\h[i]?=some o/\o.wr=true/\o.at (β i) b k:=λ{b k} hb=>hb
 have hkeep:Keep (C.N β h) w w':=hs'.heap.frame.weaken λk j ho=>by
  obtain⟨i,o,_,h2,h3,h4⟩:=hown ho;exact .inr ⟨i,o,h2,h3,h4⟩
 have hat:∀ {id j:Nat}{ob oy:Ob},ρ[j]?=some id->h[id]?=some ob->hy[j]?=some oy->∀ b k,(oy.back (lS ρ h.length) (jX ρ h) j).at (qP β β' ρ h id) b k->oy.at (β' j) b k:=λ{id j ob oy} hi hob hoy b k hbk=>by
  cases hb2:Ef ob with
  |true =>
   have hp:oy.tQ=false:=(zRy j oy hoy).yVp (yOw hi hob hb2).1;rw[yXh hi hob hb2]at hbk;have:=Ob.zRf (by simp[Ob.plain,Ob.zLe,hp]) hbk;exact Ob.mP (by rw[(yOw hi hob hb2).2.1];exact this)
  |false =>
   rw[yXi hi hob hb2]at hbk;exact Ob.zV (Ob.zLe oy) rfl rfl hbk
 have yXj:∀ {j:Nat}{oy:Ob},ρ.length<=j->∀ b k,(oy.back (lS ρ h.length) (jX ρ h) j).at (qP β β' ρ h (h.length+(j-ρ.length))) b k->oy.at (β' j) b k:=λ{j oy} hj b k hbk=>by
  rw[xFf hj]at hbk;exact Ob.zV (Ob.zLe oy) rfl rfl hbk
 have yFf:Moves β (qP β β' ρ h):=λid hl=>by
  have hid:id<h.length:=by
   rcases jF id h.length with h1|h1
   ·exact h1
   ·rw[hs.dead id h1]at hl;cases hl
  cases hp:pos id ρ 0 with
  |none=>exact .inl (yOx hp hid)
  |some j =>
   obtain⟨m,hm,hi⟩:=Ky hp;rw[yY]at hm;subst hm;obtain⟨o,ho⟩:=hget id (qDk hi);cases hb:Ef o with
   |true=>exact .inl (yXh hi ho hb)
   |false =>
    obtain⟨oy,hoy,hby⟩:=hrow hi ho hb;have hY:=zRy j oy hoy;have hO:=hs.obj id o ho;rw[yXi hi ho hb];cases o with
    |box=>cases hb
    |fm=>cases hb
    |dm=>cases hb
    |stk e ei u rows top =>
     cases oy with
     |box=>cases hby
     |fm=>cases hby
     |dm=>cases hby
     |arr e' t' u' rows' wr' =>
      simp only[Ob.Rel]at hY hO;refine .inr ⟨hO.2.1,hY.1,hY.2.1,?_⟩;simp only[jX,hi,ho];have:=hO.2.2.1;omega
     |stk e' ei' u' rows' top' =>
      simp only[Ob.Rel]at hY hO;refine .inr ⟨hO.2.1,hY.1,hY.2.1,?_⟩;simp only[jX,hi,ho];have:=hO.2.2.1;omega
    |arr e t u rows wr =>
     cases oy with
     |box=>cases hby
     |fm=>cases hby
     |dm=>cases hby
     |stk e' ei' u' rows' top' =>
      simp only[Ob.Rel]at hY hO;refine .inr ⟨hO.2.1,hY.1,hY.2.1,?_⟩;simp only[jX,hi,ho];have:=hO.2.2.1;omega
     |arr e' t' u' rows' wr' =>
      simp only[Ob.Rel]at hY hO;refine .inr ⟨hO.2.1,hY.1,hY.2.1,?_⟩;simp only[jX,hi,ho];have:=hO.2.2.1;omega
 have hbl:∀ {b k:Nat},b<w.heap.size->w.heap.size<=b\/(inC C β h w ρ hs).Uv b k->C.N β h b k:=λ{b k} hb ho=>by
  rcases ho with ho|ho
  ·omega
  ·obtain⟨i,o,_,h2,h3,h4⟩:=hown ho;exact .inr ⟨i,o,h2,h3,h4⟩
 have xAp:∀ b j,b<w.heap.size->C.N (qP β β' ρ h) (gD ρ h hy) b j->C.N β h b j:=λb k hb hn=>by
  rcases hn with hn|⟨id,o,ho,hw,hbk⟩
  ·exact .inl hn
  ·rcases zDb hk ho with ⟨hid,hp,ho⟩|⟨j,ob,oy,hid,hi,hp,hob,hoy,rfl⟩|⟨j,oy,hj,rfl,hoy,rfl⟩
   ·rw[yOx hp hid]at hbk;exact .inr ⟨id,o,ho,hw,hbk⟩
   ·rw[Ob.Qj]at hw;have hbk:=hat hi hob hoy b k hbk;exact hbl hb ((zEr j oy b hoy ⟨k,hbk⟩).2.2.imp (λh=>h) λh=>h k hw hbk)
   ·rw[Ob.Qj]at hw;have hbk:=yXj hj b k hbk;exact hbl hb ((zEr j oy b hoy ⟨k,hbk⟩).2.2.imp (λh=>h) λh=>h k hw hbk)
 have xAq:∀ b j,b<w'.heap.size->C.N (qP β β' ρ h) (gD ρ h hy) b j->(inC C β h w ρ hs).N β' (so.enc y).h b j:=λb k _ hn=>by
  rw[hhy];rcases hn with hn|⟨id,o,ho,hw,hbk⟩
  ·exact .inl ⟨.inl hn,λi hi o ho hbk=>(hs.eZ i o b ho hbk).1 k hn⟩
  ·rcases zDb hk ho with ⟨hid,hp,ho⟩|⟨j,ob,oy,hid,hi,hp,hob,hoy,rfl⟩|⟨j,oy,hj,rfl,hoy,rfl⟩
   ·rw[yOx hp hid]at hbk;refine .inl ⟨.inr ⟨id,o,ho,hw,hbk⟩,λi hi oi hoi hbi=>?_⟩;have:=hs.kX id i o oi b ho hoi ⟨k,hbk⟩ hbi;subst this;exact Yl hp hi
   ·rw[Ob.Qj]at hw;exact .inr ⟨j,oy,hoy,hw,hat hi hob hoy b k hbk⟩
   ·rw[Ob.Qj]at hw;exact .inr ⟨j,oy,hoy,hw,yXj hj b k hbk⟩
 have zLa:∀ {id:Nat}{o:Ob}{b:Nat},pos id ρ 0=none->h[id]?=some o->o.blks (β id) b->b<w.heap.size/\∀ k,¬ (inC C β h w ρ hs).Uv b k:=λ{id o b} hp ho hb=>by
  refine⟨(hs.eZ id o b ho hb).2.1,λk hw=>?_⟩;obtain⟨i,oi,h1,h2,_,h4⟩:=hown hw;have:=hs.kX id i o oi b ho h2 hb ⟨k,h4⟩;subst this;exact Yl hp h1
 have hcls:∀ {id:Nat}{o:Ob},(gD ρ h hy)[id]?=some o->(pos id ρ 0=none/\h[id]?=some o/\qP β β' ρ h id=β id)\/∃ j oy,hy[j]?=some oy/\id=lS ρ h.length j/\o=oy.back (lS ρ h.length) (jX ρ h) j/\∀ b k,o.at (qP β β' ρ h id) b k->oy.at (β' j) b k:=λ{id o} ho=>by
  rcases zDb hk ho with ⟨hid,hp,ho⟩|⟨j,ob,oy,hid,hi,hp,hob,hoy,rfl⟩|⟨j,oy,hj,rfl,hoy,rfl⟩
  ·exact .inl ⟨hp,ho,yOx hp hid⟩
  ·exact .inr ⟨j,oy,hoy,(eF hi).symm,rfl,hat hi hob hoy⟩
  ·exact .inr ⟨j,oy,hoy,(eF2 hj).symm,rfl,yXj hj⟩
 have xFg:∀ {j:Nat}{oy:Ob},hy[j]?=some oy->(oy.back (lS ρ h.length) (jX ρ h) j).wr=true:=λ{j oy} hoy=>by
  rw[Ob.Qj,<- hhy]at *;exact Qk hoy
 have xFh:∀ {j id:Nat}{oy:Ob}{b:Nat},hy[j]?=some oy->(∀ b k,(oy.back (lS ρ h.length) (jX ρ h) j).at (qP β β' ρ h id) b k->oy.at (β' j) b k)->(oy.back (lS ρ h.length) (jX ρ h) j).blks (qP β β' ρ h id) b->b<w.heap.size->(∀ k,¬ (inC C β h w ρ hs).Uv b k)->False:=λ{j id oy b} hoy eb hb g1 g2=>by
  obtain⟨q,hb⟩:=hb;rcases(zEr j oy b hoy ⟨q,eb b q hb⟩).2.2 with h3|h3
  ·have h3:w.heap.size<=b:=h3;omega
  ·have hw:=xFg hoy;rw[Ob.Qj]at hw;exact g2 q (h3 q hw (eb b q hb))
 have hHS:fC C (qP β β' ρ h) (gD ρ h hy) w':=by
  refine⟨?_,?_,?_,?_,hs.n0,?_,zG hs.size hs'.heap.size,hs'.heap.os.trans hs.os,hs'.heap.tape.trans hs.tape,hs'.heap.output.trans hs.output,?_⟩
  ·intro id o ho;rcases hcls ho with ⟨hp,ho,eb⟩|⟨j,oy,hoy,rfl,rfl,_⟩
   ·rw[eb];exact(hs.obj id o ho).mono yFf hkeep xAp λb hb=>hs'.heap.frame.block b (zLa hp ho hb).1 (zLa hp ho hb).2
   ·have hY:=zRy j oy hoy;rw[<- hhy]at hY;exact Ob.Rel.back (f:=lS ρ h.length) (v:=jX ρ h) hpl xAq hY
  ·intro id hid;rw[zEq]at hid;have hp:=xAo (i:=id) (by omega);simp only[qP,hp];rw[if_neg (by omega)];exact yTd _ (by omega)
  ·intro i j o1 o2 b h1 h2 hb1 hb2;rcases hcls h1 with ⟨hp1,ho1,eb1⟩|⟨j1,oy1,xFi,rfl,rfl,eb1⟩<;>rcases hcls h2 with ⟨hp2,ho2,eb2⟩|⟨j2,oy2,xFj,rfl,rfl,eb2⟩
   ·rw[eb1]at hb1;rw[eb2]at hb2;exact hs.kX i j o1 o2 b ho1 ho2 hb1 hb2
   ·exfalso;rw[eb1]at hb1;obtain⟨g1,g2⟩:=zLa hp1 ho1 hb1;exact xFh xFj eb2 hb2 g1 g2
   ·exfalso;rw[eb2]at hb2;obtain⟨g1,g2⟩:=zLa hp2 ho2 hb2;exact xFh xFi eb1 hb1 g1 g2
   ·obtain⟨q1,hb1⟩:=hb1;obtain⟨q2,hb2⟩:=hb2;rw[yLj j1 j2 oy1 oy2 b xFi xFj ⟨q1,eb1 b q1 hb1⟩ ⟨q2,eb2 b q2 hb2⟩]
  ·intro id o b ho hb;rcases hcls ho with ⟨hp,ho,eb⟩|⟨j,oy,hoy,rfl,rfl,eb⟩
   ·rw[eb]at hb ⊢;obtain⟨k1,k2,k3⟩:=hs.eZ id o b ho hb;exact⟨k1,wD k2 hs'.heap.size,k3⟩
   ·obtain⟨q,hb⟩:=hb;obtain⟨k1,k2,k3⟩:=zEr j oy b hoy ⟨q,eb b q hb⟩;rcases jF b w.heap.size with hlt|hge
    ·have hold:∀ k,(oy.back (lS ρ h.length) (jX ρ h) j).wr=true->(oy.back (lS ρ h.length) (jX ρ h) j).at (qP β β' ρ h (lS ρ h.length j)) b k->∃ (i:Nat) (o:Ob),i∈ρ/\h[i]?=some o/\o.wr=true/\o.at (β i) b k:=λk hw hk=>by
      rw[Ob.Qj]at hw;rcases k3 with k3|k3
      ·have k3:w.heap.size<=b:=k3;omega
      ·exact hown (k3 k hw (eb b k hk))
     have hwy:(oy.back (lS ρ h.length) (jX ρ h) j).wr=true:=xFg hoy;obtain⟨i,oi,h1,h2,h3,h4⟩:=hold q hwy hb;obtain⟨g1,g2,g3⟩:=hs.eZ i oi b h2 ⟨q,h4⟩;refine⟨g1,k2,?_⟩;rcases g3 with g3|g3
     ·exact .inl g3
     ·right;intro k hw hk;obtain⟨i2,oi2,f1,f2,f3,f4⟩:=hold k hw hk;rcases(hs.eZ i2 oi2 b f2 ⟨k,f4⟩).2.2 with g5|g5
      ·have:=hs.kX i i2 oi oi2 b h2 f2 ⟨q,h4⟩ ⟨k,f4⟩;subst this;rw[h2]at f2;simp only[aA]at f2;subst f2;exact g3 k f3 f4
      ·exact g5 k f3 f4
    ·have h0:=hs.size;exact⟨λ_ hn=>by have:=hs.n0 b _ hn;omega,k2,.inl (by omega)⟩
  ·refine hs.frame.uJ hs'.heap.frame λb j hb ho=>?_
   obtain⟨i,oi,h1,h2,h3,h4⟩:=hown ho;rcases(hs.eZ i oi b h2 ⟨j,h4⟩).2.2 with h5|h5
   ·omega
   ·exact h5 j h3 h4
  ·intro j o hj;obtain⟨k1,k2⟩:=hs.fixed j o hj;refine⟨by rw[zEq];omega,λb hb=>?_⟩;obtain⟨k3,k4⟩:=k2 b hb;have hoj:h[j]?=some h[j]:=by simp[k1]
   rcases yFf j (hs.obj j _ hoj).live with e|⟨e,_⟩
   ·rw[e];exact⟨k3,k4⟩
   ·rw[k4]at e;cases e
 refine⟨qP β β' ρ h,yFf,hkeep,xAp,hHS,?_⟩;refine yLi (by have:=hs'.size;simpa using this) λi v u hv hu=>?_
 simp only[qBx,qBu]at hv;obtain⟨v0,hv0,rfl⟩:=hv;have hr:=hs'.reg i v0 hv0;have e:(us.toArray).getD i undef=u:=by
  rw[qCl];simp[hu]
 simp only[e]at hr;exact hr.back (f:=lS ρ h.length) (v:=jX ρ h) hpl xAq
theorem xAr{l:L}(h:l.isD=true):l.ids=[]:=by
 cases l<;>first|rfl|(cases h;done)|(rename_i f cs;cases cs<;>first|rfl|cases h)
theorem yTe:∀ {ls:List L},dF L.isD ls=true->L.zRo ls=[]
 |[],_=>rfl
 |l::ls,h=>by
  simp only[dF,aD]at h;simp only[L.zRo,xAr h.1,yTe h.2,vE]
theorem yTf:∀ {vs:List V},dF V.isD vs=true->yEi vs=[]
 |[],_=>rfl
 |v::vs,h=>by
  simp only[dF,aD]at h;have h1:v.ids=[]:=by
   cases v with
   |one l=>exact xAr h.1
   |agg ls=>exact yTe h.1
   |_=>rfl
  simp only[yEi,h1,yTf h.2,vE]
theorem zOd{vs:List V}{h:List Ob}(hd:dF V.isD vs=true):reach vs h=[]:=by
 unfold reach;rw[yTf hd];rfl
theorem xAs{ρ:List Nat}{h h2:List Ob}{l:L}(hd:l.isD=true):l.ren ρ h=l.ren ρ h2:=by
 cases l<;>first|rfl|(cases hd;done)|(rename_i f cs;cases cs<;>first|rfl|cases hd)
theorem yTg{ρ:List Nat}{h h2:List Ob}:∀ {ls:List L},dF L.isD ls=true->L.Qc ρ h ls=L.Qc ρ h2 ls
 |[],_=>rfl
 |l::ls,hd=>by
  simp only[dF,aD]at hd;simp only[L.Qc,xAs (h:=h) (h2:=h2) hd.1,yTg (h:=h) (h2:=h2) hd.2]
theorem yTh{ρ:List Nat}{h h2:List Ob}:∀ {vs:List V},dF V.isD vs=true->vs.map (V.ren ρ h)=vs.map (V.ren ρ h2)
 |[],_=>rfl
 |v::vs,hd=>by
  simp only[dF,aD]at hd;have h1:V.ren ρ h v=V.ren ρ h2 v:=by
   cases v with
   |one l=>simp only[V.ren,xAs (h:=h) (h2:=h2) hd.1]
   |agg ls=>simp only[V.ren,yTg (h:=h) (h2:=h2) hd.1]
   |_=>rfl
  simp only[List.map_cons,h1,yTh (h:=h) (h2:=h2) hd.2]
theorem yAt:∀ {h:List Ob}{n:Nat},Yr (λ_=>none) n h=h
 |[],_=>rfl
 |o::r,n=>by simp only[Yr,yAt]
theorem zQk(h hy:List Ob):gD [] h hy=h++Ba (lS [] h.length) (jX [] h) 0 hy:=by
 unfold gD;simp only[pos,List.length_nil,qEk,yAt]
theorem xCl{vs:List V}{h h2:List Ob}(hd:dF V.isD vs=true)(hl:h2.length=h.length):(peM si so F).run vs h=(peM si so F).run vs h2/\∀ y,((peM si so F).enc y vs h).1=((peM si so F).enc y vs h2).1/\∃ os,((peM si so F).enc y vs h).2=h++os/\((peM si so F).enc y vs h2).2=h2++os:=by
 have e1:vs.map (V.ren [] h)=vs.map (V.ren [] h2):=yTh hd;have e2:jX [] h=jX [] h2:=rfl;refine⟨?_,λy=>⟨?_,Ba (lS [] h.length) (jX [] h) 0 (so.enc y).h,?_,?_⟩⟩
 ·simp only[peM,zOd hd,e1];rfl
 ·simp only[peM,zOd hd,hl,e2]
 ·simp only[peM,zOd hd,zQk]
 ·simp only[peM,zOd hd,zQk,hl,e2]
theorem bF(hM:dV P f si so F):(peM si so F).OK P f:=by
 refine⟨hM.1,λvs h y hr C β w xs hP hs ha=>?_,λh=>(by cases h),λh=>(by cases h),λ_ vs h h2 hd hl=>xCl hd hl⟩;subst hP;simp only[peM]at hr;split at hr
 case h_2=>cases hr
 rename_i x hx;simp only[aA,aC]at hr;obtain⟨hok,hF⟩:=hr;obtain⟨hnd,hlt,hlen,hwr,Jm⟩:=zDa hok;have Ew:=zNw hx (yFe hs ha hnd hlt);refine(hM.2 x y hF (inC C β h w _ hs) _ w xs rfl (by simp[inC,hlen]) Ew).mono ?_;rintro e w' ⟨us,β',rfl,hs'⟩;obtain⟨β2,h1,h2,h3,h4,h5⟩:=zHf hs hnd hlt hwr Jm hs';exact⟨_,_,β2,⟨rfl,rfl⟩,h1,h2,h3,h4,_,rfl,zRx h5⟩
def dA(P:Program)(f:FuncId)(si so:Sh)(tp:TypeId)(sp:Sh)(F:si.X->Option (Sum so.X sp.X)):Prop :=
 iK P f=true/\∀ x y,F x=some y->∀ (C:Ctx) (β:Nat->Pl) (w:World) (xs:List Value),C.P=P->C.fix.length<=si.os.length->Sim C β (si.enc x) { tmps:=xs.toArray,defers:=[] } w ->
  Calls P f xs.toArray w λe w'=>(∃ (z:so.X) (us:List Value) (β':Nat->Pl),y=.inl z/\e=.returned (sP us)/\Sim C β' (so.enc z) { tmps:=us.toArray,defers:=[] } w') \/
   ∃ (z:sp.X) (u:Value) (β':Nat->Pl),y=.inr z/\e=.panicked [{ v:=.iface tp u,recovered:=false }]/\Sim C β' (sp.enc z) { tmps:=#[u],defers:=[] } w'
def xFk(vs:List V):V :=
 match vs with
 |[v]=>v
 |_=>.cK
def ob2{α γ ρ:Type}(o:Option (Sum α γ))(k:α->Option ρ)(k':γ->Option ρ):Option ρ :=
 match o with
 |some (.inl x)=>k x
 |some (.inr x)=>k' x
 |none=>none
theorem Sc{ρ:List Nat}{h hy:List Ob}{id:Nat}(hid:id<h.length)(hn:id∉ρ):(gD ρ h hy)[id]?=h[id]?:=by
 unfold gD;have hl:∀ {g:Nat->Option Ob}{h:List Ob}{n:Nat},(Yr g n h).length=h.length:=by
  intro g h;induction h with
  |nil=>intro n;rfl
  |cons o r ih=>intro n;simp[Yr,ih]
 rw[fU (by rw[hl];exact hid),zRw,wW hid];have hp:pos id ρ 0=none:=by
  cases hp:pos id ρ 0 with
  |none=>rfl
  |some j =>
   obtain⟨m,_,hm⟩:=Ky hp;exact absurd (qDk hm) hn
 simp only[yY,hp,kU]
def yXk{ρ:Type}(si so:Sh)(tp:TypeId)(sp:Sh)(F:si.X->Option (Sum so.X sp.X))(vs:List V)(h:List Ob)(k:Out->List Ob->Option ρ):Option ρ :=
 match si.dec ⟨vs.map (V.ren (reach vs h) h),inH (reach vs h) h⟩with
 |some x=>chk (zEp (reach vs h) h si so&&vQ (inH (reach vs h) h) sp.os) (ob2 (F x)
  (λy=>k (.ret (zYh ((so.enc y).r.map (V.back (lS (reach vs h) h.length) (jX (reach vs h) h))))) (gD (reach vs h) h (so.enc y).h))
  (λz=>k (.pan tp (xFk ((sp.enc z).r.map (V.back (lS (reach vs h) h.length) (jX (reach vs h) h))))) (gD (reach vs h) h (sp.enc z).h)))
 |none=>none
theorem xCm{ρ:Type}{tp:TypeId}{sp:Sh}{F:si.X->Option (Sum so.X sp.X)}(hM:dA P f si so tp sp F){vs:List V}{h:List Ob}{k:Out->List Ob->Option ρ}{r:ρ}(hr:yXk si so tp sp F vs h k=some r):iK P f=true/\Ed P f vs h λout h'=>k out h'=some r/\∀ id,id<h.length->id∉reach vs h->h'[id]?=h[id]?:=by
 refine⟨hM.1,λC β w xs hP hs ha=>?_⟩;subst hP;unfold yXk at hr;split at hr
 case h_2=>cases hr
 rename_i x hx;obtain⟨hok,hF⟩:=iP hr;simp only[aD]at hok;obtain⟨hnd,hlt,hlen,hwr,Jm⟩:=zDa hok.1;have Ew:=zNw hx (yFe hs ha hnd hlt);cases hy:F x with
 |none=>rw[hy]at hF;cases hF
 |some y =>
  rw[hy]at hF;refine(hM.2 x y hy (inC C β h w _ hs) _ w xs rfl (by simp[inC,hlen]) Ew).mono ?_;rintro e w' (⟨z,us,β',rfl,rfl,hs'⟩|⟨z,u,β',rfl,rfl,hs'⟩)
  ·obtain⟨β2,h1,h2,h3,h4,h5⟩:=zHf hs hnd hlt hwr Jm hs';exact⟨_,_,β2,⟨hF,λid hid hn=>Sc hid hn⟩,h1,h2,h3,h4,_,rfl,zRx h5⟩
  ·obtain⟨β2,h1,h2,h3,h4,h5⟩:=zHf (us:=[u]) hs hnd hlt hwr hok.2 hs';refine⟨_,_,β2,⟨hF,λid hid hn=>Sc hid hn⟩,h1,h2,h3,h4,u,rfl,?_⟩;cases hv:(sp.enc z).r.map (V.back (lS (reach vs h) h.length) (jX (reach vs h) h))with
   |nil=>rw[hv]at h5;exact h5.elim
   |cons v l =>
    rw[hv]at h5;cases l with
    |nil=>exact h5.1
    |cons v2 l=>exact h5.2.elim
end
end Go.Dec
namespace Go.Dec
section
variable {T:Tab}{C:Ctx}{β:Nat->Pl}{w:World}
def yOy(T:Tab)(σ:St):ResultVar->Option (Bool × V)
 |.tmp t=>some (true,σ.r.getD t .cK)
 |.cell t ty =>
  match σ.r.getD t .cK with
  |.one l=>loadAt T σ.h ty l
  |_=>none
def zOe(T:Tab)(σ:St):List ResultVar->Option (Bool × List V)
 |[]=>some (true,[])
 |x::r =>
  match yOy T σ x,zOe T σ r with
  |some (c,l),some (d,ls)=>some (c&&d,l::ls)
  |_,_=>none
theorem yXl{σ:St}{a:Act}{rv:ResultVar}{v:V}(hT:bU C.P T)(hs:Sim C β σ a w)(h:yOy T σ rv=some (true,v)):∃ x,(Az a.tmps rv).run C.P w=.ok x w/\v.Rel β w (C.N β σ.h) x:=by
 cases rv with
 |tmp t =>
  simp only[yOy,aA,aC,true_and]at h;subst h;exact⟨a.tmps.getD t undef,rfl,zHc hs t⟩
 |cell t ty =>
  simp only[yOy]at h;have hr:=zHc hs t;split at h
  ·rename_i l hl;rw[hl]at hr;obtain⟨y,h1,h2⟩:=Wn hT h hs.heap hr;obtain⟨ad,h3,h4⟩:=zCz h1;refine⟨y,?_,h2⟩;simp only[Az,h3,asAddr,jJ,jI,kQ,h4]
  ·cases h
theorem yAu{σ:St}{a:Act}(hT:bU C.P T)(hs:Sim C β σ a w):∀ {rs:List ResultVar}{vs:List V},zOe T σ rs=some (true,vs) ->
 ∀ acc:Array Value,∃ us:List Value,(rs.foldlM (λ(acc:Array Value) rv=>do let v <- Az a.tmps rv;pure (acc.push v)) acc).run C.P w=.ok (acc++us.toArray) w/\bJ (λv u=>V.Rel β w (C.N β σ.h) v u) vs us
 |[],vs,h,acc=>by
  simp only[zOe,aA,aC,true_and]at h;subst h;exact⟨[],by simp,trivial⟩
 |rv::rs,vs,h,acc=>by
  simp only[zOe]at h;split at h
  ·rename_i c s d r h1 h2;simp only[aA,aC,aD]at h;obtain⟨⟨rfl,rfl⟩,rfl⟩:=h;obtain⟨x,g1,g2⟩:=yXl hT hs h1;obtain⟨us,g4,g5⟩:=yAu hT hs h2 (acc.push x);refine⟨x::us,?_,⟨g2,g5⟩⟩;simp only[qEl,jJ,g1,kQ,jI,g4];simp
  ·cases h
theorem yFg{σ:St}{a:Act}{fn:Func}{vs:List V}(hT:bU C.P T)(hs:Sim C β σ a w)(h:zOe T σ fn.results.toList=some (true,vs)):∃ us:List Value,(results fn a.tmps).run C.P w=.ok (sP us) w/\bJ (λv u=>V.Rel β w (C.N β σ.h) v u) vs us:=by
 obtain⟨us,h1,h2⟩:=yAu hT hs h #[];refine⟨us,?_,h2⟩;have e0:results fn a.tmps=(do let vs <- fn.results.mapM (Az a.tmps);pure (if h:vs.size=1 then vs[0]else .tuple vs)):=by
  unfold results;congr 1
 have hm:(fn.results.mapM (Az a.tmps):Sem (Array Value)).run C.P w=.ok us.toArray w:=by
  rw[qEm,<- qEn];have e:(λ(acc:Array Value) rv=>do let v <- Az a.tmps rv;pure (acc.push v):Array Value->ResultVar->Sem (Array Value))=(λ(acc:Array Value) rv=>acc.push <$> Az a.tmps rv):=by
   funext acc rv;rfl
  rw[e]at h1;simpa using h1
 rw[e0];simp only[jJ,hm,kQ,jI];match us with
 |[]=>rfl
 |[u]=>rfl
 |u::v::us=>simp[sP]
theorem zRz{σ:St}{a:Act}{vs:List V}{us:List Value}(hs:Sim C β σ a w)(h:bJ (λv u=>V.Rel β w (C.N β σ.h) v u) vs us):Sim C β ⟨vs,σ.h⟩ { tmps:=us.toArray,defers:=[] } w:=by
 refine⟨hs.heap,rfl,by simpa using h.length,λi v hv=>?_⟩;have hl:i<us.length:=by rw[<- h.length];exact(bK.1 hv).1
 have hr:=h.get i (bK.1 hv).1 hl;rw[(bK.1 hv).2]at hr;have e2:(us.toArray).getD i undef=us[i]:=by simp[hl]
 simp only[e2];exact hr
def zHg(T:Tab){ρ:Type}(res:List ResultVar)(so:Sh)(co:List Co)(σ:St)(g:so.X->Option ρ):Option ρ :=
 match zOe T σ res with
 |some (c,vs)=>chk c (enter T so co ⟨vs,σ.h⟩ g)
 |none=>none
def yOz(T:Tab)(res:List ResultVar)(so:Sh)(co:List Co):K so.X:=λe σ =>
 match e with
 |.normal=>zHg T res so co σ some
 |.ret=>zHg T res so co σ some
 |_=>none
def zDc(T:Tab)(res:List ResultVar)(so:Sh)(co:List Co)(tp:TypeId)(sp:Sh)(cp:List Co):K (Sum so.X sp.X):=λe σ =>
 match e with
 |.normal=>zHg T res so co σ λy=>some (.inl y)
 |.ret=>zHg T res so co σ λy=>some (.inl y)
 |.pan t v=>match vF t tp with
  |true=>enter T sp cp ⟨[v],σ.h⟩ λz=>some (.inr z)
  |false=>none
 |_=>none
theorem zSa{σ:St}{a:Act}{fn:Func}{so:Sh}{co:List Co}{ρ:Type}{g:so.X->Option ρ}{r:ρ}{kf:Nat}(hT:bU C.P T)(hkf:C.fix.length<=kf)(hfx:dF (Co.fx kf) co=true)(hs:Sim C β σ a w)(h:zHg T fn.results.toList so co σ g=some r):∃ (us:List Value) (β':Nat->Pl) (y:so.X),(results fn a.tmps).run C.P w=.ok (sP us) w/\Sim C β' (so.enc y) { tmps:=us.toArray,defers:=[] } w/\g y=some r:=by
 unfold zHg at h;split at h
 ·rename_i c vs hvs;obtain⟨rfl,h⟩:=iP h;obtain⟨us,h1,h2⟩:=yFg hT hs hvs;obtain⟨β',_,y,h3,h4⟩:=Fb hT hkf hfx h (zRz hs h2);exact⟨us,β',y,h1,h3,h4⟩
 ·cases h
end
section
variable {P:Program}{T:Tab}{f:FuncId}{fn:Func}{c:Code}{si so sp:Sh}
theorem zLf{C:Ctx}{β:Nat->Pl}{w:World}{σ:St}{xs:List Value}(n:Nat)(hs:Sim C β σ { tmps:=xs.toArray,defers:=[] } w):Sim C β ⟨Sb σ.r n,σ.h⟩ { tmps:=xs.toArray++qDy (n-xs.toArray.size) undef,defers:=[] } w:=by
 have hl:σ.r.length=xs.length:=by simpa using hs.size
 refine⟨hs.heap,rfl,by simp[Sb,hl],λi u hu=>?_⟩;simp only[Sb]at hu;by_cases hi:i<σ.r.length
 ·rw[fU hi]at hu;have hr:=hs.reg i u hu;have e:(xs.toArray++qDy (n-xs.toArray.size) undef).getD i undef=(xs.toArray).getD i undef:=by
   rw[qCl,qCl,Array.getElem?_append_left (by simpa using by omega)]
  rw[e];exact hr
 ·rw[yZ (by omega),qEo]at hu;split at hu
  ·simp only[aA]at hu;subst hu;trivial
  ·cases hu
theorem dO{F:si.X->Option so.X}{Γ:Orc so.X}{an:An so.X}{co:List Co}(hf:P.funcs[f]?=some fn)(hb:fn.body=some c)(hh:iK P f=true)(hT:bU P T)(hΓ:kW P Γ)(hm:P.follows .mixedOrders=true)(ha:zRu P si.os.length c an)(hfx:an.fx si.os.length=true)(hco:dF (Co.fx si.os.length) co=true)(h:∀ x,ev Γ T c an ⟨Sb (si.enc x).r fn.ntmps,(si.enc x).h⟩ (yOz T fn.results.toList so co)=F x):dV P f si so F:=by
 refine⟨hh,λx y hF C β w xs hP hkf hs=>?_⟩;rw[<- h x]at hF;refine calls_of_wp hf hb ?_;refine zHa (P:=P) hT hΓ hm c an ha hfx _ _ y hF C β _ w _ hP hkf (zLf fn.ntmps hs) ?_;intro e x' σ' β' a' w' hs' hx' hk;have fin:zHg T fn.results.toList so co σ' some=some y->x'=.ret\/x'=.normal->bodyPost P fn (λe w'=>∃ (us:List Value) (β':Nat->Pl),e=.returned (sP us)/\Sim C β' (so.enc y) { tmps:=us.toArray,defers:=[] } w') x' a' w':=by
  intro hk hx';subst hP;obtain⟨us,β2,y',h1,h2,h3⟩:=zSa (fn:=fn) hT hkf hco hs' hk;obtain rfl:=qBc h3;rcases hx' with rfl|rfl
  ·exact⟨hs'.defers,_,h1,us,β2,rfl,h2⟩
  ·exact⟨hs'.defers,_,h1,us,β2,rfl,h2⟩
 cases e with
 |normal=>obtain rfl:=hx';exact fin hk (.inr rfl)
 |ret=>obtain rfl:=hx';exact fin hk (.inl rfl)
 |exit i=>simp[yOz]at hk
 |goto l=>simp[yOz]at hk
 |pan t u=>simp[yOz]at hk
theorem dP{tp:TypeId}{F:si.X->Option (Sum so.X sp.X)}{Γ:Orc (Sum so.X sp.X)}{an:An (Sum so.X sp.X)}{co cp:List Co}(hf:P.funcs[f]?=some fn)(hb:fn.body=some c)(hh:iK P f=true)(hT:bU P T)(hΓ:kW P Γ)(hm:P.follows .mixedOrders=true)(ha:zRu P si.os.length c an)(hfx:an.fx si.os.length=true)(hco:dF (Co.fx si.os.length) co=true)(hcp:dF (Co.fx si.os.length) cp=true)(h:∀ x,ev Γ T c an ⟨Sb (si.enc x).r fn.ntmps,(si.enc x).h⟩ (zDc T fn.results.toList so co tp sp cp)=F x):dA P f si so tp sp F:=by
 refine⟨hh,λx y hF C β w xs hP hkf hs=>?_⟩;rw[<- h x]at hF;refine calls_of_wp hf hb ?_;refine zHa (P:=P) hT hΓ hm c an ha hfx _ _ y hF C β _ w _ hP hkf (zLf fn.ntmps hs) ?_;intro e x' σ' β' a' w' hs' hx' hk;subst hP;have fin:(zHg T fn.results.toList so co σ' λy=>some (.inl y))=some y->x'=.ret\/x'=.normal->bodyPost C.P fn (λe w'=>(∃ (z:so.X) (us:List Value) (β':Nat->Pl),y=.inl z/\e=.returned (sP us)/\Sim C β' (so.enc z) { tmps:=us.toArray,defers:=[] } w') \/
  ∃ (z:sp.X) (u:Value) (β':Nat->Pl),y=.inr z/\e=.panicked [{ v:=.iface tp u,recovered:=false }]/\Sim C β' (sp.enc z) { tmps:=#[u],defers:=[] } w') x' a' w':=by
  intro hk hx';obtain⟨us,β2,y',h1,h2,h3⟩:=zSa (fn:=fn) hT hkf hco hs' hk;obtain rfl:=qBc h3;rcases hx' with rfl|rfl
  ·exact⟨hs'.defers,_,h1,.inl ⟨y',us,β2,rfl,rfl,h2⟩⟩
  ·exact⟨hs'.defers,_,h1,.inl ⟨y',us,β2,rfl,rfl,h2⟩⟩
 cases e with
 |normal=>obtain rfl:=hx';exact fin hk (.inr rfl)
 |ret=>obtain rfl:=hx';exact fin hk (.inl rfl)
 |exit i=>simp[zDc]at hk
 |goto l=>simp[zDc]at hk
 |pan t u =>
  simp only[zDc]at hk;split at hk
  ·rename_i hb;have:=aP hb;subst this;obtain⟨x0,rfl,hx0⟩:=hx';obtain⟨β2,_,z,h3,h4⟩:=Fb hT hkf hcp hk (zRz (vs:=[u]) (us:=[x0]) hs' ⟨hx0,trivial⟩);obtain rfl:=qBc h4;exact⟨hs'.defers,.inr ⟨z,x0,β2,rfl,rfl,h3⟩⟩
  ·cases hk
structure GE (ρ:Type) where
 f:FuncId
 run:List V->List Ob->(Out->List Ob->Option ρ)->Option ρ
 ids:List V->List Ob->List Nat:=reach
structure GE.OK (P:Program) {ρ:Type}(g:GE ρ):Prop where
 ok:∀ vs h k r,g.run vs h k=some r->iK P g.f=true/\Ed P g.f vs h λout h'=>k out h'=some r/\∀ id,id<h.length->id∉g.ids vs h->h'[id]?=h[id]?
def yXm{ρ:Type}:List (GE ρ)->FuncId->List V->List Ob->(Out->List Ob->Option ρ)->Option ρ
 |[],_,_,_,_=>none
 |g::r,f,vs,h,k=>match vF g.f f with
  |true=>g.run vs h k
  |false=>yXm r f vs h k
def yPa{ρ:Type}:List (GE ρ)->FuncId->List V->List Ob->List Nat
 |[],_,vs,h=>reach vs h
 |g::r,f,vs,h=>match vF g.f f with
  |true=>g.ids vs h
  |false=>yPa r f vs h
def bA (ρ:Type) (l:List (FuncId×PE)) (m:List (GE ρ)):Orc ρ:=⟨pes l,yXm m,yPa m⟩
theorem aG{ρ:Type}{l:List (FuncId × PE)}{m:List (GE ρ)}(h:∀ p∈l,p.2.OK P p.1)(hm:∀ g∈m,g.OK P):kW P (bA ρ l m):=by
 refine⟨(xFe (ρ:=ρ) h).pure,λf vs hp k r hr=>?_⟩;simp only[bA]at hr;induction m with
 |nil=>cases hr
 |cons g m ih =>
  simp only[yXm]at hr;split at hr
  ·rename_i hb;simp only[bA,yPa,hb];have:=aP hb;subst this;exact(hm g (.head _)).ok vs hp k r hr
  ·rename_i hb;simp only[bA,yPa,hb];exact ih (λg hg=>hm g (.tail _ hg)) hr
def geP {ρ:Type} (f:FuncId) (si so:Sh) (tp:TypeId) (sp:Sh) (F:si.X->Option (Sum so.X sp.X)):GE ρ := { f:=f,run:=yXk si so tp sp F }
theorem bO{ρ:Type}{tp:TypeId}{F:si.X->Option (Sum so.X sp.X)}(h:dA P f si so tp sp F):(geP (ρ:=ρ) f si so tp sp F).OK P:=⟨λ_ _ _ _ hr=>xCm h hr⟩
theorem aH{ρ:Type}:∀ g∈([]:List (GE ρ)),g.OK P:=λ_ h=>by cases h
theorem aW{ρ:Type}{g:GE ρ}{m:List (GE ρ)}(h:g.OK P)(hm:∀ g∈m,g.OK P):∀ x∈g::m,x.OK P:=λx hx=>by
 cases hx with
 |head=>exact h
 |tail _ hx=>exact hm x hx
end
def yFh {α ρ:Type} (B:Nat->(α->Option ρ)->α->Option ρ):Nat->α->Option ρ | 0,_=>none | n+1,x=>B n (yFh B n) x
theorem yXn{P:Program}{f:FuncId}{si so:Sh}(hh:iK P f=true):dV P f si so (λ_=>none):=⟨hh,λ_ _ h=>by cases h⟩
theorem yAv{P:Program}{f:FuncId}{si so:Sh}{B:Nat->(si.X->Option so.X)->si.X->Option so.X}(hh:iK P f=true)(h:∀ n r,dV P f si so r->dV P f si so (B n r)):∀ n,dV P f si so (yFh B n)
 |0=>yXn hh
 |n+1=>h n _ (yAv hh h n)
theorem zVc{P:Program}{f:FuncId}{si so sp:Sh}{tp:TypeId}{B:Nat->(si.X->Option (Sum so.X sp.X))->si.X->Option (Sum so.X sp.X)}(hh:iK P f=true)(h:∀ n r,dA P f si so tp sp r->dA P f si so tp sp (B n r)):∀ n,dA P f si so tp sp (yFh B n)
 |0=>⟨hh,λ_ _ h=>by cases h⟩
 |n+1=>h n _ (zVc hh h n)
end Go.Dec
namespace Go.Dec
section
variable {C:Ctx}{β:Nat->Pl}{w w1:World}{h:List Ob}{σ:St}{a:Act}
def Uy(C:Ctx)(β:Nat->Pl)(h:List Ob)(w w1:World)(N:Nat)(hs:fC C β h w)(hk:Keep (λ_ _=>False) w w1):Ctx where
 P:=C.P
 N0 b j:=C.N0 b j\/b=N
 w0:=w1
 Uv b j:=∃ (i:Nat) (o:Ob),h[i]?=some o/\o.wr=true/\o.at (β i) b j
 glob w' hw:=C.glob w' ((hs.frame.uJ hk λ_ _ _ h=>h.elim).uJ hw λb j hb hm=>by
  obtain⟨i,o,ho,hwo,hbk⟩:=hm;rcases(hs.eZ i o b ho ⟨j,hbk⟩).2.2 with h1|h1
  ·omega
  ·exact h1 j hwo hbk)
 fix:=C.fix
theorem Sim.inN{N:Nat}(hs:Sim C β σ a w)(hk:Keep (λ_ _=>False) w w1)(hN:w.heap.size<=N)(hN1:N<w1.heap.size):Sim (Uy C β σ.h w w1 N hs.heap hk) β σ a w1:=by
 have hsub:∀ b j,b<w.heap.size->(Uy C β σ.h w w1 N hs.heap hk).N β σ.h b j->C.N β σ.h b j:=λb j hb h=>by
  rcases h with h|h
  ·rcases h with h|h
   ·exact .inl h
   ·omega
  ·exact .inr h
 have hkw:Keep (C.N β σ.h) w w1:=hk.weaken λ_ _ h=>h.elim
 refine⟨⟨λid o ho=>(hs.heap.obj id o ho).mono (Moves.refl β) hkw hsub λb hb=>hk.block b (hs.heap.eZ id o b ho hb).2.1 (λ_ h=>h),hs.heap.dead,hs.heap.kX,λid o b ho hb=>?_,λb j hb=>?_,Keep.refl _ _,aS _,rfl,rfl,rfl,hs.heap.fixed⟩,hs.defers,hs.size,λi u hu=>(hs.reg i u hu).mono (Moves.refl β) hkw hsub⟩
 ·obtain⟨k1,k2,k3⟩:=hs.heap.eZ id o b ho hb;refine⟨λj h=>?_,wD k2 hk.size,.inr λj g1 g2=>⟨id,o,ho,g1,g2⟩⟩;rcases h with h|h
  ·exact k1 j h
  ·omega
 ·rcases hb with hb|rfl
  ·exact wD (wD (hs.heap.n0 b j hb) hs.heap.size) hk.size
  ·exact hN1
theorem Sim.yPb{N:Nat}{hs:fC C β h w}{hk:Keep (λ_ _=>False) w w1}{β':Nat->Pl}{σ':St}{a':Act}{w2 w3:World}(hN:w.heap.size<=N)(hN1:N<w1.heap.size)(h2:Sim (Uy C β h w w1 N hs hk) β' σ' a' w2)(h3:Keep (λb _=>b=N) w2 w3)(ho:w3.os=C.w0.os)(ht:w3.tape=C.w0.tape)(hout:w3.output=C.w0.output):Sim C β' σ' a' w3:=by
 have hsub:∀ b j,b<w2.heap.size->C.N β' σ'.h b j->(Uy C β h w w1 N hs hk).N β' σ'.h b j:=λb j _ h=>by
  rcases h with h|h
  ·exact .inl (.inl h)
  ·exact .inr h
 have hNn:∀ j,(Uy C β h w w1 N hs hk).N β' σ'.h N j:=λj=>.inl (.inr rfl)
 have hkw:Keep ((Uy C β h w w1 N hs hk).N β' σ'.h) w2 w3:=h3.weaken λb j hb=>by subst hb;exact hNn j
 have hbk:∀ (id:Nat) (o:Ob) (b:Nat),σ'.h[id]?=some o->o.blks (β' id) b->b≠N:=λid o b ho hb e=>(h2.heap.eZ id o b ho hb).1 0 (.inr e)
 refine⟨⟨λid o ho=>(h2.heap.obj id o ho).mono (Moves.refl β') hkw hsub λb hb=>h3.block b (h2.heap.eZ id o b ho hb).2.1 (λ_=>hbk id o b ho hb),h2.heap.dead,h2.heap.kX,λid o b ho hb=>?_,hs.n0,?_,?_,ho,ht,hout,h2.heap.fixed⟩,h2.defers,h2.size,λi u hu=>(h2.reg i u hu).mono (Moves.refl β') hkw hsub⟩
 ·obtain⟨k1,k2,k3⟩:=h2.heap.eZ id o b ho hb;refine⟨λj h=>k1 j (.inl h),wD k2 h3.size,?_⟩;by_cases hlt:C.w0.heap.size<=b
  ·exact .inl hlt
  ·right;rcases k3 with k3|k3
   ·have k3:w1.heap.size<=b:=k3;have:=hs.size;have:=hk.size;omega
   ·intro j g1 g2;obtain⟨i,o',ho',hw',hb'⟩:=k3 j g1 g2;rcases(hs.eZ i o' b ho' ⟨j,hb'⟩).2.2 with h1|h1
    ·exact absurd h1 hlt
    ·exact h1 j hw' hb'
 ·refine((hs.frame.uJ hk λ_ _ _ h=>h.elim).uJ h2.heap.frame λb j hb hm=>?_).uJ h3 λb j hb hm=>?_
  ·obtain⟨i,o',ho',hw',hb'⟩:=hm;rcases(hs.eZ i o' b ho' ⟨j,hb'⟩).2.2 with h1|h1
   ·omega
   ·exact h1 j hw' hb'
  ·have:=hs.size;omega
 ·exact zG (zG (zG hs.size hk.size) h2.heap.size) h3.size
end
end Go.Dec
namespace Go.Dec
def strings_Cut (_n:Nat) (x:List UInt8×List UInt8):Option (List UInt8×List UInt8×Bool):=chk (decide (x.1.length < 4294967281)) (some (Go.Lib.cut x.1 x.2))
def strings_IndexByte (_n:Nat) (x:List UInt8×Int):Option Int:=some (Go.Lib.indexByte x.1 x.2.toNat.toUInt8)
def isDigit (c:UInt8):Bool:=decide (48<=c.toNat)&&decide (c.toNat<=57)
def yPc (s:List UInt8):Nat:=s.foldl (fun a c=>a * 10+(c.toNat - 48)) 0
def strconv_Atoi(_n:Nat)(x:List UInt8):Option (Int × Bool):=chk (Nat.ble x.length 18&&x.all isDigit) (some (match x with|[]=>(0,true)|_=>((yPc x:Nat),false)))
end Go.Dec
