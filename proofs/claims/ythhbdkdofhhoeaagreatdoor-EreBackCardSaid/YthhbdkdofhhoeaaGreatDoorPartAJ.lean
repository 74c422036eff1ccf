/- Part of a proof over this seat: a library of my own, and what it says of this seat. No statement is proved here. -/
import Derived.Test.YthhbdkdofhhoeaaGreatDoorPartAI
import Derived.Test.YthhbdkdofhhoeaaGreatDoorPartAG
import Derived.LoopN
import Derived.ScopeJumps
namespace Go.Dec
def zAr (J:Nat->Act->World->Prop) (Q:Exit->Act->World->Prop):Exit->Act->World->Prop | .goto l,a,w=>J l a w | e,a,w=>Q e a w
theorem zDh {P:Program}{a:Act}{w:World}{Q:Exit->Act->World->Prop}{c:Code}(J:Nat->Nat->Act->World->Prop)
  (first:c.wp P (zAr (fun l a w=>∃ m,J m l a w) Q) a w)
  (pass:∀ m l a w,J m l a w->∃ rest,findLabel c l=some rest∧rest.wp P (zAr (fun l' a' w'=>∃ m',m'<m∧J m' l' a' w') Q) a w):(Code.scope c).wp P Q a w:=by
 intro b k cs;have key:∀ m l a w,J m l a w->∃ rest e a' w',findLabel c l=some rest∧Q e a' w'∧Arrives P (lone (b.at a (.code rest::.inScope c::k)) cs w) b k cs e a' w':=by
  intro m;induction m using Nat.strongRecOn with
  | _ m ih =>
   intro l a w hJ;obtain ⟨rest,hf,hp⟩:=pass m l a w hJ;obtain ⟨e,a₁,w₁,hq,harr⟩:=hp b (.inScope c::k) cs;refine ⟨rest,?_⟩;cases e with
   | normal=>exact ⟨.normal,a₁,w₁,hf,hq,Steps.trans harr (.one step_inScope)⟩
   | exit id=>exact ⟨.exit id,a₁,w₁,hf,hq,fun k' hk=>harr k' (by simp [exitTo,hk])⟩
   | goto l' =>
    obtain ⟨m',hlt,hJ'⟩:=hq;obtain ⟨rest',e₂,a₂,w₂,hf',hq₂,harr₂⟩:=ih m' hlt l' a₁ w₁ hJ';have hg:gotoIn l' (.inScope c::k)=some (.code rest'::.inScope c::k):=by simp [gotoIn,hf']
    exact ⟨e₂,a₂,w₂,hf,hq₂,.of_steps (harr _ hg) harr₂⟩
   | ret=>exact ⟨_,a₁,w₁,hf,hq,harr⟩
   | panic ch=>exact ⟨_,a₁,w₁,hf,hq,harr⟩
   | outgrown=>exact ⟨_,a₁,w₁,hf,hq,harr⟩
 obtain ⟨e,a₁,w₁,hq,harr⟩:=first b (.inScope c::k) cs
 cases e with
 | normal=>exact ⟨.normal,a₁,w₁,hq,.head step_scope (Steps.trans harr (.one step_inScope))⟩
 | exit id=>exact ⟨.exit id,a₁,w₁,hq,fun k' hk=>.head step_scope (harr k' (by simp [exitTo,hk]))⟩
 | goto l' =>
  obtain ⟨m,hJ'⟩:=hq;obtain ⟨rest,e₂,a₂,w₂,hf,hq₂,harr₂⟩:=key m l' a₁ w₁ hJ';have hg:gotoIn l' (.inScope c::k)=some (.code rest::.inScope c::k):=by simp [gotoIn,hf]
  exact ⟨e₂,a₂,w₂,hq₂,.of_steps (.head step_scope (harr _ hg)) harr₂⟩
 | ret=>exact ⟨_,a₁,w₁,hq,.of_steps (.one step_scope) harr⟩
 | panic ch=>exact ⟨_,a₁,w₁,hq,.of_steps (.one step_scope) harr⟩
 | outgrown=>exact ⟨_,a₁,w₁,hq,.of_steps (.one step_scope) harr⟩
def flows:List Oper->List Nat->List Nat
 | [],ds=>ds
 | o::r,ds=>flows r (match o.op,o.dst with
  | .build _ parts,some e=>if parts.toList.any (fun p=>match p.2 with|.tmp t=>ds.any (Nat.beq t)|_=>false) then e::ds else ds
  | _,_=>ds)
def yCh {ρ:Type}(Γ:Orc ρ) (ops:Array Oper) (o:Oper):Bool :=
 match o.op,o.dst with
 | .buildSlice _ _ _,some d=>(fun ds=>ops.toList.any fun p=>match p.op with
  | .call { callee:=.value (.func f),args,.. }=>args.toList.any (fun x=>match x with|.tmp e=>ds.any (Nat.beq e)|_=>false)&&(Γ.pure f).isSome
  | _=>false) (flows ops.toList [d])
 | _,_=>false
section yIj
variable {ρ:Type}(Γ:Orc ρ) (T:Tab)
def Va (ops:Array Oper) (σ:St) (o:Oper) (k:K ρ):Option ρ :=
 match yCh Γ ops o with
 | true=>match Xy T σ o with
  | some v=>k .normal ⟨bZ σ.r o.dst v,σ.h⟩
  | none=>none
 | false=>Gw Γ T σ o k
def uP (ops:Array Oper):List Oper->St->K ρ->Option ρ
 | [],σ,k=>k .normal σ
 | o::rest,σ,k =>
  match o.guard with
  | none=>Va Γ T ops σ o fun e σ'=>match e with|.normal=>uP ops rest σ' k|e=>k e σ'
  | some (j,want) =>
   match Dl ops j with
   | some s =>
    match σ.r.getD s .bS with
    | .one (.val .bool b) =>
     br b
      (match want with
       | true=>Va Γ T ops ⟨σ.r.set s (.one (.val .bool true)),σ.h⟩ o fun e σ'=>match e with|.normal=>uP ops rest σ' k|e=>k e σ'
       | false=>uP ops rest ⟨bZ (σ.r.set s (.one (.val .bool true))) o.dst (.tup []),σ.h⟩ k)
      (match want with
       | false=>Va Γ T ops ⟨σ.r.set s (.one (.val .bool false)),σ.h⟩ o fun e σ'=>match e with|.normal=>uP ops rest σ' k|e=>k e σ'
       | true=>uP ops rest ⟨bZ (σ.r.set s (.one (.val .bool false))) o.dst (.tup []),σ.h⟩ k)
    | .tup []=>uP ops rest ⟨bZ σ.r o.dst (.tup []),σ.h⟩ k
    | _=>none
   | none=>none
end yIj
section yEn
variable {ρ:Type}{Γ:Orc ρ}{T:Tab}{C:Ctx}
theorem zNu (hT:bI C.P T) (hΓ:jM C.P Γ) {ops:Array Oper}{β:Nat->Pl}{σ:St}{a:Act}{w:World}{o:Oper}{k:Dec.K ρ}{r:ρ}{next:Act->World->Prop}{Q:Exit->Act->World->Prop}(h:Va Γ T ops σ o k=some r) (hs:Sim C β σ a w)
  (hn:∀ σ' β' a' w',Sim C β' σ' a' w'->k .normal σ'=some r->next a' w')
  (hq:∀ e x σ' β' a' w',Sim C β' σ' a' w'->e≠.normal->Jb β' w' (C.N β' σ'.h) e x->k e σ'=some r->Q x a' w'):o.wp C.P a w next Q:=by
 unfold Va at h;split at h
 ·split at h
  ·rename_i v hv;obtain ⟨w',v',hrun,hs',hv'⟩:=zOt hT hs hv;unfold Oper.wp;rw [hrun,Oper.upon_value];exact hn _ β _ w' (hs'.put o.dst hv') h
  ·cases h
 ·exact zAg hT hΓ h hs hn hq
theorem uQ (hT:bI C.P T) (hΓ:jM C.P Γ) {ops:Array Oper}{r:ρ}{Q:Exit->Act->World->Prop}{k:Dec.K ρ}
  (hq:∀ e x σ' β' a' w',Sim C β' σ' a' w'->Jb β' w' (C.N β' σ'.h) e x->k e σ'=some r->Q x a' w') :
  ∀ (l:List Oper) (β:Nat->Pl) (σ:St) (a:Act) (w:World),uP Γ T ops l σ k=some r->Sim C β σ a w->wpList C.P ops Q l a w
 | [],β,σ,a,w,h,hs=>hq .normal .normal σ β a w hs rfl h
 | o::rest,β,σ,a,w,h,hs=>by
  simp only [uP] at h;have zYi:∀ σ1:St,σ1=σ->(Va Γ T ops σ1 o fun e σ'=>match e with|.normal=>uP Γ T ops rest σ' k|e=>k e σ')=some r->o.wp C.P a w (wpList C.P ops Q rest) Q:=by
   intro σ1 e1 h1;subst e1;refine zNu hT hΓ h1 hs (fun σ' β' a' w' hs' hk=>uQ hT hΓ hq rest β' σ' a' w' hk hs') ?_;intro e x σ' β' a' w' hs' hne hx hk;refine hq e x σ' β' a' w' hs' hx ?_;cases e<;>first|exact absurd rfl hne|exact hk
  split at h
  ·rename_i hg;simp only [wpList];rw [if_pos (by simp [Region.wanted,hg])];exact .inl (zYi σ rfl h)
  ·rename_i j want hg;split at h
   ·rename_i s hsl;split at h
    ·rename_i b hb;have Xz:∃ v,σ.r[s]?=some v∧v=.one (.val .bool b):=by
      rw [List.getD_eq_getElem?_getD] at hb;cases hr:σ.r[s]? with
      | none=>rw [hr] at hb;cases hb
      | some v=>rw [hr] at hb;exact ⟨v,rfl,hb⟩
     obtain ⟨v,hv,rfl⟩:=Xz;have hval:=hs.reg s _ hv;simp only [V.Rel,L.Rel,Ty.Rel,aL,and_true] at hval;have hy:=Qx hsl hval;have hwant:Region.wanted o (yielded ops a.tmps)=(b==want):=by
      simp only [Region.wanted,hg,hy];cases b<;>cases want<;>rfl
     have hset:σ.r.set s (.one (.val .bool b))=σ.r:=zOs hb (by simp);simp only [wpList];rcases Gj h with ⟨rfl,h1⟩|⟨rfl,h1⟩
     ·cases want with
      | true =>
       rw [if_pos (by rw [hwant];rfl)];exact .inl (zYi _ (by rw [hset]) h1)
      | false =>
       rw [if_neg (by rw [hwant];simp)];simp only [hset] at h1;exact uQ hT hΓ hq rest β _ _ w h1 (hs.put o.dst (v:=.tup []) ⟨[],rfl,trivial⟩)
     ·cases want with
      | false =>
       rw [if_pos (by rw [hwant];rfl)];exact .inl (zYi _ (by rw [hset]) h1)
      | true =>
       rw [if_neg (by rw [hwant];simp)];simp only [hset] at h1;exact uQ hT hΓ hq rest β _ _ w h1 (hs.put o.dst (v:=.tup []) ⟨[],rfl,trivial⟩)
    ·rename_i hb;have Xz:σ.r[s]?=some (.tup []):=by
      rw [List.getD_eq_getElem?_getD] at hb;cases hr:σ.r[s]? with
      | none=>rw [hr] at hb;cases hb
      | some v=>rw [hr] at hb;simp at hb;rw [hb]
     have hval:=hs.reg s _ Xz;obtain ⟨us,hval,hus⟩:=hval;have hwant:Region.wanted o (yielded ops a.tmps)=false:=by
      simp only [Region.wanted,hg,Qy hsl hval];cases want<;>rfl
     simp only [wpList];rw [if_neg (by rw [hwant];simp)];exact uQ hT hΓ hq rest β _ _ w h (hs.put o.dst (v:=.tup []) ⟨[],rfl,trivial⟩)
    ·cases h
   ·cases h
end yEn
inductive An (ρ:Type) where
 | nil
 | mk (l r:An ρ) (c:List Co)
 | loop (sh:Sh) (c0 c1:List Co) (n:Nat) (a:An ρ)
 | scope (l:Nat) (a b:An ρ)
 | sem (f:xS ρ)
 | co (cs:List Co) (a:An ρ)
 | join (sh:Sh) (cs:List Co) (a:An ρ)
def An.l {ρ:Type}:An ρ->An ρ | .mk l _ _=>l | .scope _ a _=>a | _ => .nil
def An.r {ρ:Type}:An ρ->An ρ | .mk _ r _=>r | _ => .nil
def An.c {ρ:Type}:An ρ->List Co | .mk _ _ c=>c | _=>[]
def fix {ρ α:Type} (B:(α->Option ρ)->α->Option ρ):Nat->α->Option ρ | 0,_=>none | n+1,x=>B (fix B n) x
def enter {ρ:Type}(T:Tab) (sh:Sh) (co:List Co) (σ:St) (g:sh.X->Option ρ):Option ρ :=
 norm T co σ fun σ1=>match sh.dec σ1 with
  | some x=>g x
  | none=>none
def An.plain {ρ:Type}:An ρ->Bool | .nil=>true | .mk l r _=>l.plain&&r.plain | .loop _ _ _ _ a=>a.plain | .scope _ a _=>a.plain | .sem _=>false | .co _ a=>a.plain | .join _ _ a=>a.plain
def An.fx {ρ:Type} (k:Nat):An ρ->Bool | .nil=>true | .mk l r c=>l.fx k&&(r.fx k&&bP (Co.fx k) c) | .loop _ c0 c1 _ a=>bP (Co.fx k) c0&&(bP (Co.fx k) c1&&a.fx k) | .scope _ a b=>a.fx k&&b.fx k | .sem _=>true | .co c a=>bP (Co.fx k) c&&a.fx k | .join _ c a=>bP (Co.fx k) c&&a.fx k
section ev
variable {ρ:Type}(Γ:Orc ρ) (T:Tab)
def vK (an:An ρ) (σ:St) (k:K ρ) (d:Option ρ):Option ρ :=
 match an with
 | .sem f=>f σ k
 | _=>d
def jn {ρ α:Type} (f:α->Option ρ) (x:α):Option ρ:=f x
def evA (f:An ρ->xS ρ):An ρ->xS ρ
 | .co cs a=>fun σ k=>norm T cs σ fun σ'=>evA f a σ' k
 | .join sh cs a=>fun σ k=>evA f a σ fun e σ'=>match e with
  | .normal=>enter T sh cs σ' (jn fun x=>k .normal (sh.enc x))
  | e=>k e σ'
 | an=>f an
def goK (J:Code->Nat->An ρ->xS ρ) (a:Code) (k:K ρ) (l0:Nat) (sh:Sh) (c:List Co) (l2:Nat) (b2:An ρ) (g:sh.X->Option ρ):K ρ:=fun e σ'=>match e with
 | .goto l=>match Nat.beq l l0 with
  | true=>enter T sh c σ' g
  | false=>match Nat.beq l l2 with
   | true=>J a l2 b2 σ' fun e σ2=>match e with
    | .goto _=>none
    | e=>k e σ2
   | false=>none
 | e=>k e σ'
def zOw (J : Code -> Nat -> An ρ -> xS ρ) (a : Code) (f : An ρ -> xS ρ) : An ρ -> xS ρ
  | .scope l0 a0 (.loop sh c0 c1 n (.scope l2 b b2)) => fun σ k => evA T f a0 σ (goK T J a k l0 sh c0 l2 b2 (fix (fun g x => J a l0 b (sh.enc x) (goK T J a k l0 sh c1 l2 b2 g)) n))
  | an => fun σ k => vK an σ k (evA T f an.l σ fun e σ' => match e with
      | .goto l => match an with
        | .scope l0 _ b => match Nat.beq l l0 with
          | true => J a l0 b σ' fun e σ2 => match e with
            | .goto _ => none
            | e => k e σ2
          | false => none
        | _ => none
      | e => k e σ')
def evG (J:Code->Nat->An ρ->xS ρ):Code->An ρ->St->K ρ->Option ρ
 | .skip,an,σ,k=>vK an σ k (k .normal σ)
 | .region _ ops d,an,σ,k=>vK an σ k (match d with
   | false=>uP Γ T ops ops.toList σ k
   | true=>zDb Γ T ops σ k)
 | .seq a b,an,σ,k=>vK an σ k (evA T (evG J a) an.l σ fun e σ'=>match e with
   | .normal=>norm T an.c σ' fun σ2=>evA T (evG J b) an.r σ2 k
   | e=>k e σ')
 | .cond c a b,an,σ,k=>vK an σ k (match ovl σ c with
   | .one (.val .bool t)=>br t (evA T (evG J a) an.l σ k) (evA T (evG J b) an.r σ k)
   | _=>none)
 | .block id a,an,σ,k=>vK an σ k (evA T (evG J a) an.l σ fun e σ'=>match e with
   | .normal=>norm T an.c σ' (k .normal)
   | .exit i=>match Nat.beq i id with
    | true=>norm T an.c σ' (k .normal)
    | false=>k (.exit i) σ'
   | e=>k e σ')
 | .scope a,an,σ,k=>zOw T J a (evG J a) an σ k
 | .loop b,an,σ,k=>vK an σ k (match an with
   | .loop sh c0 c1 n a=>enter T sh c0 σ fun x=>fix (fun g x=>evA T (evG J b) a (sh.enc x) fun e σ'=>match e with
    | .normal=>enter T sh c1 σ' g
    | e=>k e σ') n x
   | _=>none)
 | .exit id,an,σ,k=>vK an σ k (k (.exit id) σ)
 | .goto l,an,σ,k=>vK an σ k (k (.goto l) σ)
 | .label _,an,σ,k=>vK an σ k (k .normal σ)
 | .ret,an,σ,k=>vK an σ k (k .ret σ)
 | _,an,σ,k=>vK an σ k none
def ev0 (c:Code) (an:An ρ):xS ρ:=evA T (evG Γ T (fun _ _ _ _ _=>none) c) an
def zRo (a:Code) (l:Nat) (an:An ρ):xS ρ:=fun σ k =>
 match findLabel a l with
 | some rest =>
  match an.plain with
  | true=>ev0 Γ T rest an σ k
  | false=>none
 | none=>none
def ev (c:Code) (an:An ρ):xS ρ:=evA T (evG Γ T (zRo Γ T) c) an
end ev
def Fj (P:Program) (kf:Nat) {ρ:Type}(c:Code) (f:xS ρ):Prop:=∀ (σ:St) (k:K ρ) (r:ρ),f σ k=some r->∀ (C:Ctx) (β:Nat->Pl) (a:Act) (w:World) (Q:Exit->Act->World->Prop),C.P=P->C.fix.length<=kf->Sim C β σ a w ->
 (∀ e x σ' β' a' w',Sim C β' σ' a' w'->Jb β' w' (C.N β' σ'.h) e x->k e σ'=some r->Q x a' w')->c.wp P Q a w
def rE {ρ:Type} (f:An ρ->Prop):An ρ->Prop | .co _ a=>rE f a | .join _ _ a=>rE f a | an=>f an
def AnG (P:Program) (kf:Nat) {ρ:Type}:Code->An ρ->Prop | c,.sem f=>Fj P kf c f | .seq a b,an=>rE (AnG P kf a) an.l ∧ rE (AnG P kf b) an.r | .cond _ a b,an=>rE (AnG P kf a) an.l ∧ rE (AnG P kf b) an.r | .block _ a,an=>rE (AnG P kf a) an.l | .scope a,an=>rE (AnG P kf a) an.l | .loop b,.loop _ _ _ _ a=>rE (AnG P kf b) a | _,_=>True
def zDi (P:Program) (kf:Nat) {ρ:Type} (c:Code) (an:An ρ):Prop:=rE (AnG P kf c) an
section sound
variable {ρ:Type}{Γ:Orc ρ}{T:Tab}{P:Program}
theorem iW {an:An ρ}{σ:St}{k:K ρ}{d:Option ρ}{r:ρ}(h:vK an σ k d=some r):(∃ f,an=.sem f∧f σ k=some r)∨((∀ f,an≠.sem f)∧d=some r):=by
 cases an with
 | sem f=>exact .inl ⟨f,rfl,h⟩
 | nil=>exact .inr ⟨by simp,h⟩
 | mk l r c=>exact .inr ⟨by simp,h⟩
 | loop sh c0 c1 n a=>exact .inr ⟨by simp,h⟩
 | scope l a b=>exact .inr ⟨by simp,h⟩
 | co c a=>exact .inr ⟨by simp,h⟩
 | join sh c a=>exact .inr ⟨by simp,h⟩
theorem AnG.sem {kf:Nat}{c:Code}{f:xS ρ}(h:AnG P kf c (.sem f)):Fj P kf c f:=by
 cases c<;>exact h
theorem zUx {kf:Nat}(hT:bI P T) (hΓ:jM P Γ) (id:Nat) (ops:Array Oper):Fj P kf (.region id ops false) (fun σ k=>uP Γ T ops ops.toList σ k):=by
 intro σ k r h C β a w Q hP _ hs hq;subst hP;refine wp_region ?_;rw [show List.range ops.size=List.range' 0 ops.toList.length by simp [List.range_eq_range'],wpOps_eq_wpList ops.toList 0 (by simp)];exact uQ hT hΓ hq ops.toList β σ a w h hs
theorem yJ {C:Ctx}{β:Nat->Pl}{σ:St}{a:Act}{w:World}{sh:Sh}{co:List Co}{g:sh.X->Option ρ}{r:ρ}(hT:bI C.P T) {kf:Nat}(hkf:C.fix.length<=kf) (hfx:bP (Co.fx kf) co=true) (h:enter T sh co σ g=some r) (hs:Sim C β σ a w) :
  ∃ (β':Nat->Pl) (_σ':St) (x:sh.X),Sim C β' (sh.enc x) a w∧g x=some r:=by
 obtain ⟨β2,σ2,hs2,hk2⟩:=Bd hT hkf hfx h hs;split at hk2
 ·rename_i x hx;exact ⟨β2,σ2,x,Uz hx hs2,hk2⟩
 ·cases hk2
theorem jS (hT:bI P T) {kf:Nat}{c:Code}{f:An ρ->xS ρ}{Q:An ρ->Prop}(hf:∀ an,Q an->an.fx kf=true->Fj P kf c (f an)):∀ an,rE Q an->an.fx kf=true->Fj P kf c (evA T f an)
 | .co cs a,ha,hx=>by
  simp only [An.fx,aD] at hx;intro σ k r h C β ac w R hP hkf hs hq;obtain ⟨β',σ',hs',hk⟩:=Bd (hP ▸ hT:bI C.P T) hkf hx.1 h hs;exact jS hT hf a ha hx.2 σ' k r hk C β' ac w R hP hkf hs' hq
 | .join sh cs a,ha,hx=>by
  simp only [An.fx,aD] at hx;intro σ k r h C β ac w R hP hkf hs hq;refine jS hT hf a ha hx.2 σ _ r h C β ac w R hP hkf hs ?_;intro e x σ' β' a' w' hs' hxr hk;cases e with
  | normal =>
   obtain ⟨β2,σ2,x2,hs2,hk2⟩:=yJ (hP ▸ hT:bI C.P T) hkf hx.1 hk hs';exact hq .normal x (sh.enc x2) β2 a' w' hs2 hxr hk2
  | exit i=>exact hq (.exit i) x σ' β' a' w' hs' hxr hk
  | goto l=>exact hq (.goto l) x σ' β' a' w' hs' hxr hk
  | ret=>exact hq .ret x σ' β' a' w' hs' hxr hk
  | pan t v=>exact hq (.pan t v) x σ' β' a' w' hs' hxr hk
 | .nil,ha,hx=>hf _ ha hx
 | .mk ..,ha,hx=>hf _ ha hx
 | .loop ..,ha,hx=>hf _ ha hx
 | .scope ..,ha,hx=>hf _ ha hx
 | .sem ..,ha,hx=>hf _ ha hx
theorem An.zJp {kf:Nat}{an:An ρ}(h:an.fx kf=true):an.l.fx kf=true:=by
 cases an<;>simp_all [An.fx,An.l]
theorem An.yEo {kf:Nat}{an:An ρ}(h:an.fx kf=true):an.r.fx kf=true:=by
 cases an<;>simp_all [An.fx,An.r]
theorem An.zYj {kf:Nat}{an:An ρ}(h:an.fx kf=true):bP (Co.fx kf) an.c=true:=by
 cases an<;>simp_all [An.fx,An.c,bP]
theorem mJ {kf : Nat} {J : Code -> Nat -> An ρ -> xS ρ} (hT : bI P T) (hΓ : jM P Γ) (hm : P.follows .mixedOrders = true) (hJ : ∀ a l an, (∀ rest, findLabel a l = some rest -> an.fx kf = true -> Fj P kf rest (J a l an)) ∧ (findLabel a l = none -> ∀ σ k r, J a l an σ k ≠ some r)) : ∀ (c : Code) (an : An ρ), AnG P kf c an -> an.fx kf = true -> Fj P kf c (evG Γ T J c an)
  | .skip, an, ha, hfx => by
    intro σ k r h C β a w Q hP hkf hs hq;rcases iW h with ⟨f, rfl, hf⟩ | ⟨_, hd⟩
    · exact (AnG.sem ha) σ k r hf C β a w Q hP hkf hs hq
    · exact wp_skip (hq .normal .normal σ β a w hs rfl hd)
  | .region id ops d, an, ha, hfx => by
    intro σ k r h C β a w Q hP hkf hs hq;rcases iW h with ⟨f, rfl, hf⟩ | ⟨_, hd⟩
    · exact (AnG.sem ha) σ k r hf C β a w Q hP hkf hs hq
    · cases d with
      | false => exact zUx hT hΓ id ops σ k r hd C β a w Q hP hkf hs hq
      | true =>
        subst hP;exact zXv hT hΓ hm hq hd hs
  | .seq x y, an, ha, hfx => by
    intro σ k r h C β a w Q hP hkf hs hq;rcases iW h with ⟨f, rfl, hf⟩ | ⟨hne, hd⟩
    · exact (AnG.sem ha) σ k r hf C β a w Q hP hkf hs hq
    · have ha' : rE (AnG P kf x) an.l ∧ rE (AnG P kf y) an.r := by cases an <;> first | exact absurd rfl (hne _) | exact ha
      refine wp_seq (jS hT (mJ hT hΓ hm hJ x) an.l ha'.1 (An.zJp hfx) σ _ r hd C β a w _ hP hkf hs ?_);intro e ex σ' β' a' w' hs' hx hk;cases e with
      | normal =>
        obtain rfl := hx;obtain ⟨β2, σ2, hs2, hk2⟩ := Bd (hP ▸ hT : bI C.P T) hkf (An.zYj hfx) hk hs';exact jS hT (mJ hT hΓ hm hJ y) an.r ha'.2 (An.yEo hfx) σ2 k r hk2 C β2 a' w' Q hP hkf hs2 hq
      | exit i => obtain rfl := hx; exact hq (.exit i) _ σ' β' a' w' hs' rfl hk
      | goto l => obtain rfl := hx; exact hq (.goto l) _ σ' β' a' w' hs' rfl hk
      | ret => obtain rfl := hx; exact hq .ret _ σ' β' a' w' hs' rfl hk
      | pan t v => have hx' := hx; obtain ⟨z, rfl, _⟩ := hx; exact hq (.pan t v) _ σ' β' a' w' hs' hx' hk
  | .cond c x y, an, ha, hfx => by
    intro σ k r h C β a w Q hP hkf hs hq;rcases iW h with ⟨f, rfl, hf⟩ | ⟨hne, hd⟩
    · exact (AnG.sem ha) σ k r hf C β a w Q hP hkf hs hq
    · have ha' : rE (AnG P kf x) an.l ∧ rE (AnG P kf y) an.r := by cases an <;> first | exact absurd rfl (hne _) | exact ha
      split at hd
      · rename_i t ht;have hc := aS hs c;rw [ht] at hc;simp only [V.Rel, L.Rel, Ty.Rel, aL, and_true] at hc;rcases Gj hd with ⟨rfl, h1⟩ | ⟨rfl, h1⟩
        · exact wp_cond_true hc (jS hT (mJ hT hΓ hm hJ x) an.l ha'.1 (An.zJp hfx) σ k r h1 C β a w Q hP hkf hs hq)
        · exact wp_cond_false hc (jS hT (mJ hT hΓ hm hJ y) an.r ha'.2 (An.yEo hfx) σ k r h1 C β a w Q hP hkf hs hq)
      · cases hd
  | .block id x, an, ha, hfx => by
    intro σ k r h C β a w Q hP hkf hs hq;rcases iW h with ⟨f, rfl, hf⟩ | ⟨hne, hd⟩
    · exact (AnG.sem ha) σ k r hf C β a w Q hP hkf hs hq
    · have ha' : rE (AnG P kf x) an.l := by cases an <;> first | exact absurd rfl (hne _) | exact ha
      refine wp_block (jS hT (mJ hT hΓ hm hJ x) an.l ha' (An.zJp hfx) σ _ r hd C β a w _ hP hkf hs ?_);intro e ex σ' β' a' w' hs' hx hk;cases e with
      | normal =>
        obtain rfl := hx;obtain ⟨β2, σ2, hs2, hk2⟩ := Bd (hP ▸ hT : bI C.P T) hkf (An.zYj hfx) hk hs';exact hq .normal .normal σ2 β2 a' w' hs2 rfl hk2
      | exit i =>
        obtain rfl := hx;simp only at hk;split at hk
        · rename_i hb;have hb := aM hb;subst hb;obtain ⟨β2, σ2, hs2, hk2⟩ := Bd (hP ▸ hT : bI C.P T) hkf (An.zYj hfx) hk hs';simp only [Exit.inBlock, if_true];exact hq .normal .normal σ2 β2 a' w' hs2 rfl hk2
        · rename_i hb;have hne : i ≠ id := fun e => by rw [e, Nat.beq_refl] at hb; cases hb
          simp only [Exit.inBlock, hne, if_false];exact hq (.exit i) _ σ' β' a' w' hs' rfl hk
      | goto l => obtain rfl := hx; exact hq (.goto l) _ σ' β' a' w' hs' rfl hk
      | ret => obtain rfl := hx; exact hq .ret _ σ' β' a' w' hs' rfl hk
      | pan t v => have hx' := hx; obtain ⟨z, rfl, _⟩ := hx; exact hq (.pan t v) _ σ' β' a' w' hs' hx' hk
  | .scope x, an, ha, hfx => by
    intro σ k r h C β a w Q hP hkf hs hq;simp only [evG] at h;unfold zOw at h;split at h
    · rename_i l0 a0 sh c0 c1 n l2 b b2;have hT' : bI C.P T := hP ▸ hT;have hx := hfx;simp only [An.fx, aD] at hx;obtain ⟨hxa, yIk, yIl, hxb, yIm⟩ := hx;have ha' : rE (AnG P kf x) a0 := ha;have go : ∀ {m : Nat} {co : List Co} {g : sh.X -> Option ρ} {e : Ex} {ex : Exit} {σ' : St} {β' : Nat -> Pl} {a' : Act} {w' : World}, bP (Co.fx kf) co = true ->
          Sim C β' σ' a' w' -> Jb β' w' (C.N β' σ'.h) e ex -> goK T J x k l0 sh co l2 b2 g e σ' = some r -> (∀ y, g y = some r -> fix (fun g y => J x l0 b (sh.enc y) (goK T J x k l0 sh c1 l2 b2 g)) m y = some r) ->
          zAr (fun l a w => ∃ m', m' < m + 2 ∧ ((l = l0 ∧ 0 < m' ∧ ∃ β y, Sim C β (sh.enc y) a w ∧ fix (fun g y => J x l0 b (sh.enc y) (goK T J x k l0 sh c1 l2 b2 g)) (m' - 1) y = some r) ∨
            (l = l2 ∧ ∃ β σ, Sim C β σ a w ∧ (J x l2 b2 σ fun e σ2 => match e with | .goto _ => none | e => k e σ2) = some r))) Q ex a' w' := by
        intro m co g e ex σ' β' a' w' hco hs' hx hk hg;cases e with
        | normal => obtain rfl := hx; exact hq .normal _ σ' β' a' w' hs' rfl hk
        | exit i => obtain rfl := hx; exact hq (.exit i) _ σ' β' a' w' hs' rfl hk
        | goto l =>
          obtain rfl := hx;simp only [goK] at hk;split at hk
          · rename_i hb;obtain ⟨β2, σ2, y, hs2, hk2⟩ := yJ hT' hkf hco hk hs';exact ⟨m + 1, by omega, .inl ⟨aM hb, by omega, β2, y, hs2, hg y hk2⟩⟩
          · split at hk
            · rename_i hb;exact ⟨0, by omega, .inr ⟨aM hb, β', σ', hs', hk⟩⟩
            · cases hk
        | ret => obtain rfl := hx; exact hq .ret _ σ' β' a' w' hs' rfl hk
        | pan t v => have hx' := hx; obtain ⟨z, rfl, _⟩ := hx; exact hq (.pan t v) _ σ' β' a' w' hs' hx' hk
      have weak : ∀ {m : Nat} {ex : Exit} {a' : Act} {w' : World} {J1 : Nat -> Nat -> Act -> World -> Prop}, zAr (fun l a w => ∃ m', m' < m ∧ J1 m' l a w) Q ex a' w' -> zAr (fun l a w => ∃ m', J1 m' l a w) Q ex a' w' := by
        intro m ex a' w' J1 h;cases ex with
        | goto l => obtain ⟨m', _, h⟩ := h; exact ⟨m', h⟩
        | normal => exact h
        | exit i => exact h
        | ret => exact h
        | panic c => exact h
        | outgrown => exact h
      refine zDh (fun m' l a w => (l = l0 ∧ 0 < m' ∧ ∃ β y, Sim C β (sh.enc y) a w ∧ fix (fun g y => J x l0 b (sh.enc y) (goK T J x k l0 sh c1 l2 b2 g)) (m' - 1) y = some r) ∨
            (l = l2 ∧ ∃ β σ, Sim C β σ a w ∧ (J x l2 b2 σ fun e σ2 => match e with | .goto _ => none | e => k e σ2) = some r)) ?_ ?_
      · refine jS hT (mJ hT hΓ hm hJ x) a0 ha' hxa σ _ r h C β a w _ hP hkf hs ?_;intro e ex σ' β' a' w' hs' hx hk;exact weak (go yIk hs' hx hk (fun y hy => hy))
      · rintro m l a1 w1 (⟨rfl, hm0, β1, y, hs1, h1⟩ | ⟨rfl, β1, σ1, hs1, h1⟩)
        · obtain ⟨m, rfl⟩ : ∃ m2, m = m2 + 1 := ⟨m - 1, by omega⟩;simp only [Nat.add_sub_cancel] at h1;cases m with
          | zero => cases h1
          | succ m =>
            simp only [fix] at h1;cases hfl : findLabel x l with
            | none => exact absurd h1 ((hJ x l b).2 hfl _ _ _)
            | some rest =>
              refine ⟨rest, rfl, ?_⟩;refine (hJ x l b).1 rest hfl hxb _ _ r h1 C β1 a1 w1 _ hP hkf hs1 ?_;intro e ex σ' β' a' w' hs' hx hk;exact go yIl hs' hx hk (fun y hy => hy)
        · cases hfl : findLabel x l with
          | none => exact absurd h1 ((hJ x l b2).2 hfl _ _ _)
          | some rest =>
            refine ⟨rest, rfl, ?_⟩;refine (hJ x l b2).1 rest hfl yIm σ1 _ r h1 C β1 a1 w1 _ hP hkf hs1 ?_;intro e ex σ' β' a' w' hs' hx hk;cases e with
            | normal => obtain rfl := hx; exact hq .normal _ σ' β' a' w' hs' rfl hk
            | exit i => obtain rfl := hx; exact hq (.exit i) _ σ' β' a' w' hs' rfl hk
            | goto l => cases hk
            | ret => obtain rfl := hx; exact hq .ret _ σ' β' a' w' hs' rfl hk
            | pan t v => have hx' := hx; obtain ⟨z, rfl, _⟩ := hx; exact hq (.pan t v) _ σ' β' a' w' hs' hx' hk
    rcases iW h with ⟨f, rfl, hf⟩ | ⟨hne, hd⟩
    · exact (AnG.sem ha) σ k r hf C β a w Q hP hkf hs hq
    · have ha' : rE (AnG P kf x) an.l := by cases an <;> first | exact absurd rfl (hne _) | exact ha
      by_cases hsc : ∃ l0 x' b rest, an = .scope l0 x' b ∧ findLabel x l0 = some rest
      · obtain ⟨l0, x', b, rest, rfl, hfl⟩ := hsc;refine wp_scope_jumps l0 (fun a' w' => ∃ β' σ', Sim C β' σ' a' w' ∧ (J x l0 b σ' fun e σ2 => match e with | .goto _ => none | e => k e σ2) = some r) (fun _ _ => 0) hfl ?_ ?_
        · refine jS hT (mJ hT hΓ hm hJ x) _ ha' (An.zJp hfx) σ _ r hd C β a w _ hP hkf hs ?_;intro e ex σ' β' a' w' hs' hx hk;cases e with
          | normal => obtain rfl := hx; exact hq .normal _ σ' β' a' w' hs' rfl hk
          | exit i => obtain rfl := hx; exact hq (.exit i) _ σ' β' a' w' hs' rfl hk
          | goto l =>
            obtain rfl := hx;simp only at hk;split at hk
            · rename_i hb;exact ⟨aM hb, β', σ', hs', hk⟩
            · cases hk
          | ret => obtain rfl := hx; exact hq .ret _ σ' β' a' w' hs' rfl hk
          | pan t v => have hx' := hx; obtain ⟨z, rfl, _⟩ := hx; exact hq (.pan t v) _ σ' β' a' w' hs' hx' hk
        · rintro a1 w1 ⟨β1, σ1, hs1, h1⟩;refine (hJ x l0 b).1 rest hfl (by simp only [An.fx, aD] at hfx; exact hfx.2) σ1 _ r h1 C β1 a1 w1 _ hP hkf hs1 ?_;intro e ex σ' β' a' w' hs' hx hk;cases e with
          | normal => obtain rfl := hx; exact hq .normal _ σ' β' a' w' hs' rfl hk
          | exit i => obtain rfl := hx; exact hq (.exit i) _ σ' β' a' w' hs' rfl hk
          | goto l => cases hk
          | ret => obtain rfl := hx; exact hq .ret _ σ' β' a' w' hs' rfl hk
          | pan t v => have hx' := hx; obtain ⟨z, rfl, _⟩ := hx; exact hq (.pan t v) _ σ' β' a' w' hs' hx' hk
      · refine wp_scope_straight (jS hT (mJ hT hΓ hm hJ x) an.l ha' (An.zJp hfx) σ _ r hd C β a w _ hP hkf hs ?_);intro e ex σ' β' a' w' hs' hx hk;cases e with
        | normal => obtain rfl := hx; exact hq .normal _ σ' β' a' w' hs' rfl hk
        | exit i => obtain rfl := hx; exact hq (.exit i) _ σ' β' a' w' hs' rfl hk
        | goto l =>
          exfalso;simp only at hk;split at hk
          · rename_i l0 x' b _;split at hk
            · cases hfl : findLabel x l0 with
              | none => exact (hJ x l0 b).2 hfl _ _ _ hk
              | some rest => exact hsc ⟨l0, x', b, rest, rfl, hfl⟩
            · cases hk
          · cases hk
        | ret => obtain rfl := hx; exact hq .ret _ σ' β' a' w' hs' rfl hk
        | pan t v => have hx' := hx; obtain ⟨z, rfl, _⟩ := hx; exact hq (.pan t v) _ σ' β' a' w' hs' hx' hk
  | .loop x, an, ha, hfx => by
    intro σ k r h C β a w Q hP hkf hs hq;rcases iW h with ⟨f, rfl, hf⟩ | ⟨hne, hd⟩
    · exact (AnG.sem ha) σ k r hf C β a w Q hP hkf hs hq
    · cases an with
      | loop sh c0 c1 n an' =>
        have ha' : rE (AnG P kf x) an' := ha;simp only [An.fx, aD] at hfx;have hT' : bI C.P T := hP ▸ hT;refine wp_loop_rounds n ?_;obtain ⟨β1, σ1, x1, hs1, h1⟩ := yJ hT' hkf hfx.1 hd hs;clear hd hs h hne ha;revert x1 β1 a w;induction n with
        | zero => intro a w β1 x1 _ h; cases h
        | succ n ih =>
          intro a w β1 x1 hs1 h1;rw [rounds_succ];refine jS hT (mJ hT hΓ hm hJ x) an' ha' hfx.2.2 _ _ r h1 C β1 a w _ hP hkf hs1 ?_;intro e ex σ' β' a' w' hs' hx hk;cases e with
          | normal =>
            obtain rfl := hx;obtain ⟨β2, σ2, x2, hs2, hk2⟩ := yJ hT' hkf hfx.2.1 hk hs';exact ih a' w' β2 x2 hs2 hk2
          | exit i => obtain rfl := hx; exact hq (.exit i) _ σ' β' a' w' hs' rfl hk
          | goto l => obtain rfl := hx; exact hq (.goto l) _ σ' β' a' w' hs' rfl hk
          | ret => obtain rfl := hx; exact hq .ret _ σ' β' a' w' hs' rfl hk
          | pan t v => have hx' := hx; obtain ⟨z, rfl, _⟩ := hx; exact hq (.pan t v) _ σ' β' a' w' hs' hx' hk
      | _ => cases hd
  | .exit id, an, ha, hfx => by
    intro σ k r h C β a w Q hP hkf hs hq;rcases iW h with ⟨f, rfl, hf⟩ | ⟨_, hd⟩
    · exact (AnG.sem ha) σ k r hf C β a w Q hP hkf hs hq
    · exact wp_exit (hq (.exit id) _ σ β a w hs rfl hd)
  | .goto l, an, ha, hfx => by
    intro σ k r h C β a w Q hP hkf hs hq;rcases iW h with ⟨f, rfl, hf⟩ | ⟨_, hd⟩
    · exact (AnG.sem ha) σ k r hf C β a w Q hP hkf hs hq
    · exact wp_goto (hq (.goto l) _ σ β a w hs rfl hd)
  | .label l, an, ha, hfx => by
    intro σ k r h C β a w Q hP hkf hs hq;rcases iW h with ⟨f, rfl, hf⟩ | ⟨_, hd⟩
    · exact (AnG.sem ha) σ k r hf C β a w Q hP hkf hs hq
    · exact wp_label (hq .normal _ σ β a w hs rfl hd)
  | .ret, an, ha, hfx => by
    intro σ k r h C β a w Q hP hkf hs hq;rcases iW h with ⟨f, rfl, hf⟩ | ⟨_, hd⟩
    · exact (AnG.sem ha) σ k r hf C β a w Q hP hkf hs hq
    · exact wp_ret (hq .ret _ σ β a w hs rfl hd)
  | .rangeFunc g ps x y, an, ha, hfx => by
    intro σ k r h C β a w Q hP hkf hs hq;rcases iW h with ⟨f, rfl, hf⟩ | ⟨_, hd⟩
    · exact (AnG.sem ha) σ k r hf C β a w Q hP hkf hs hq
    · cases hd
  | .refuse why, an, ha, hfx => by
    intro σ k r h C β a w Q hP hkf hs hq;rcases iW h with ⟨f, rfl, hf⟩ | ⟨_, hd⟩
    · exact (AnG.sem ha) σ k r hf C β a w Q hP hkf hs hq
    · cases hd
theorem An.Vb {ρ:Type}{an:An ρ}(h:an.plain=true):an.l.plain=true:=by
 cases an<;>simp_all [An.plain,An.l]
theorem An.zOx {ρ:Type}{an:An ρ}(h:an.plain=true):an.r.plain=true:=by
 cases an<;>simp_all [An.plain,An.r]
theorem sZ {Q:An ρ->Prop}(h:∀ an:An ρ,an.plain=true->Q an):∀ an:An ρ,an.plain=true->rE Q an
 | .co _ a,hp=>sZ h a hp
 | .join _ _ a,hp=>sZ h a hp
 | .nil,hp=>h _ hp
 | .mk ..,hp=>h _ hp
 | .loop ..,hp=>h _ hp
 | .scope ..,hp=>h _ hp
 | .sem _,hp=>by cases hp
theorem yK {kf:Nat}:∀ (c:Code) (an:An ρ),an.plain=true->AnG P kf c an
 | .seq a b,an,h=>by
  have:=And.intro (sZ (yK (kf:=kf) a) an.l (An.Vb h)) (sZ (yK (kf:=kf) b) an.r (An.zOx h));cases an<;>first|(cases h;done)|exact this
 | .cond _ a b,an,h=>by
  have:=And.intro (sZ (yK (kf:=kf) a) an.l (An.Vb h)) (sZ (yK (kf:=kf) b) an.r (An.zOx h));cases an<;>first|(cases h;done)|exact this
 | .block _ a,an,h=>by
  have:=sZ (yK (kf:=kf) a) an.l (An.Vb h);cases an<;>first|(cases h;done)|exact this
 | .scope a,an,h=>by
  have:=sZ (yK (kf:=kf) a) an.l (An.Vb h);cases an<;>first|(cases h;done)|exact this
 | .loop b,an,h=>by
  cases an with
  | loop sh c0 c1 n a=>exact sZ (yK (kf:=kf) b) a h
  | sem f=>cases h
  | _=>trivial
 | .skip,an,h=>by cases an<;>first|(cases h;done)|trivial
 | .region ..,an,h=>by cases an<;>first|(cases h;done)|trivial
 | .exit _,an,h=>by cases an<;>first|(cases h;done)|trivial
 | .goto _,an,h=>by cases an<;>first|(cases h;done)|trivial
 | .label _,an,h=>by cases an<;>first|(cases h;done)|trivial
 | .ret,an,h=>by cases an<;>first|(cases h;done)|trivial
 | .rangeFunc ..,an,h=>by cases an<;>first|(cases h;done)|trivial
 | .refuse _,an,h=>by cases an<;>first|(cases h;done)|trivial
theorem aU {kf:Nat}(c:Code) (an:An ρ) (h:an.plain=true):zDi P kf c an:=sZ (yK c) an h
theorem zUy {kf:Nat}(hT:bI P T) (hΓ:jM P Γ) (hm:P.follows .mixedOrders=true) (c:Code) (an:An ρ) (ha:zDi P kf c an) (hfx:an.fx kf=true):Fj P kf c (ev0 Γ T c an) :=
 jS hT (mJ hT hΓ hm (fun _ _ _=>⟨fun _ _ _ σ k r h=>(by cases h),fun _ σ k r h=>(by cases h)⟩) c) an ha hfx
theorem Yf {kf:Nat}(hT:bI P T) (hΓ:jM P Γ) (hm:P.follows .mixedOrders=true) (c:Code) (an:An ρ) (ha:zDi P kf c an) (hfx:an.fx kf=true):Fj P kf c (ev Γ T c an):=by
 refine jS hT (mJ hT hΓ hm (fun a l an'=>⟨fun rest hf hx σ k r h=>?_,fun hf σ k r h=>?_⟩) c) an ha hfx
 ·unfold zRo at h;rw [hf] at h;simp only at h;split at h
  ·rename_i hp;exact zUy hT hΓ hm rest an' (aU rest an' hp) hx σ k r h
  ·cases h
 ·unfold zRo at h;rw [hf] at h;cases h
def L.deep (h:List Ob):L->Option (Bool × L)
 | .val t x=>some (true,.val t x)
 | .lG=>some (true,.lG)
 | .dD=>some (true,.dD)
 | .lH t x off=>some (true,.lH t x off)
 | .own id ver =>
  match h[id]? with
  | some (.arr _ t v rows _)=>some (Nat.beq v ver,.val (.slice t) rows)
  | _=>none
 | .sl id ver off len =>
  match h[id]? with
  | some (.arr _ t v rows _)=>some (Nat.beq v ver&&Nat.ble (off+len) rows.length,.val (.slice t) ((rows.drop off).take len))
  | _=>none
 | .clo f []=>some (true,.clo f [])
 | _=>none
def Nn (h:List Ob):List L->Option (Bool × List L)
 | []=>some (true,[])
 | l::ls =>
  match l.deep h,Nn h ls with
  | some (c,x),some (d,r)=>some (c&&d,x::r)
  | _,_=>none
def V.deep (h:List Ob):V->Option (Bool × V)
 | .one l=>match l.deep h with
  | some (c,x)=>some (c,.one x)
  | none=>none
 | .agg ls=>match Nn h ls with
  | some (c,x)=>some (c,.agg x)
  | none=>none
 | _=>none
def zRp (T:Tab) (σ:St):ResultVar->Option (Bool × Sum L (List L))
 | .tmp t =>
  match (σ.r.getD t .bS).deep σ.h with
  | some (c,.one l)=>some (c,.inl l)
  | some (c,.agg ls)=>some (c,.inr ls)
  | _=>none
 | .cell t ty =>
  match σ.r.getD t .bS with
  | .one l =>
   match loadAt T σ.h ty l with
   | some (c,v) =>
    match v.deep σ.h with
    | some (d,.one l)=>some (c&&d,.inl l)
    | some (d,.agg ls)=>some (c&&d,.inr ls)
    | _=>none
   | none=>none
  | _=>none
def Vd (T:Tab) (σ:St):List ResultVar->Option (Bool × List (Sum L (List L)))
 | []=>some (true,[])
 | x::r =>
  match zRp T σ x,Vd T σ r with
  | some (c,l),some (d,ls)=>some (c&&d,l::ls)
  | _,_=>none
def zYk:List (Sum L (List L))->V | [.inl l] => .one l | [.inr ls] => .agg ls | vs => .tup vs
end sound
end Go.Dec
namespace Go.Dec
section
variable {T:Tab}{C:Ctx}{β β':Nat->Pl}{w:World}
theorem L.Lf {N N':Nat->Nat->Prop}(hN:∀ b j,b<w.heap.size->N' b j->N b j):∀ {l:L}{cs:List Value},l.isD=true->l.Rel β w N cs->l.Rel β' w N' cs
 | .val t x,cs,_,h=>by simp only [L.Rel] at *;exact h.mono (Keep.refl _ w) hN
 | .lG,cs,_,h=>by simp only [L.Rel] at *;exact h
 | .dD,cs,_,h=>by simp only [L.Rel] at *;exact h
 | .lH t x off,cs,_,h=>by simp only [L.Rel] at *;obtain ⟨c,hc,hr⟩:=h;exact ⟨c,hc,hr.mono (Keep.refl _ w) hN⟩
 | .clo f [],cs,_,h=>by simp only [L.Rel,L.dN] at *;exact h
 | .clo f (_::_),_,hd,_=>by simp [L.isD] at hd
 | .ptr ..,_,hd,_=>by simp [L.isD] at hd
 | .mG ..,_,hd,_=>by simp [L.isD] at hd
 | .fO ..,_,hd,_=>by simp [L.isD] at hd
 | .sl ..,_,hd,_=>by simp [L.isD] at hd
 | .own ..,_,hd,_=>by simp [L.isD] at hd
 | .bad _,_,hd,_=>by simp [L.isD] at hd
 | .gH ..,_,hd,_=>by simp [L.isD] at hd
theorem aJ.isD {N N':Nat->Nat->Prop}(hN:∀ b j,b<w.heap.size->N' b j->N b j):∀ {ls:List L}{cs:List Value},bP L.isD ls=true->aJ β w N ls cs->aJ β' w N' ls cs
 | [],_,_,h=>h
 | l::ls,_,hd,⟨c1,c2,e,h1,h2⟩=>by
  simp only [bP,aD] at hd;exact ⟨c1,c2,e,L.Lf hN hd.1 h1,aJ.isD hN hd.2 h2⟩
theorem zDj {N N':Nat->Nat->Prop}(hN:∀ b j,b<w.heap.size->N' b j->N b j):∀ {vs:List (Sum L (List L))}{us:List Value},bP zQt vs=true->aW (fK β w N) vs us->aW (fK β' w N') vs us
 | [],[],_,_=>trivial
 | .inl l::vs,u::us,hd,hr=>by
  simp only [bP,aD] at hd;exact ⟨L.Lf hN hd.1 hr.1,zDj hN hd.2 hr.2⟩
 | .inr ls::vs,u::us,hd,hr=>by
  simp only [bP,aD] at hd;obtain ⟨⟨cs,e,h⟩,h2⟩:=hr;exact ⟨⟨cs,e,h.isD hN hd.1⟩,zDj hN hd.2 h2⟩
 | [],_::_,_,h=>h.elim
 | .inl _::_,[],_,h=>h.elim
 | .inr _::_,[],_,h=>h.elim
theorem V.Lf {N N':Nat->Nat->Prop}(hN:∀ b j,b<w.heap.size->N' b j->N b j) {v:V}{x:Value}(hd:v.isD=true) (h:v.Rel β w N x):v.Rel β' w N' x:=by
 cases v with
 | one l=>exact L.Lf hN hd h
 | agg ls=>obtain ⟨cs,e,hr⟩:=h;exact ⟨cs,e,hr.isD hN hd⟩
 | tup vs =>
  obtain ⟨us,e,hr⟩:=h;exact ⟨us,e,zDj hN hd hr⟩
 | bS=>cases hd
theorem zJq {h:List Ob}{e:TypeId}{t:Ty}{ver id off len:Nat}{rows:List t.den}{wr:Bool}{c:Value}{N':Nat->Nat->Prop}(hh:dW C β h w) (ho:h[id]?=some (.arr e t ver rows wr)) (hsl:dM (β id) off len c) (hle:off+len<=rows.length)
  (hN:∀ b j,b<w.heap.size->N' b j->C.N0 b j):(Ty.slice t).Rel w N' ((rows.drop off).take len) [c]:=by
 have hob:=hh.obj _ _ ho;simp only [Ob.Rel] at hob;obtain ⟨_,_,hpv,hpz,hpos,hpl,hob⟩:=hob;simp only [Ty.Rel];refine ⟨c,rfl,?_⟩;unfold dM at hsl;rcases hob with ⟨hnb,hr0,_⟩|⟨b,cur,css,hb,hheap,hall,htake,hcap,hrc,hm⟩
 ·rw [hnb] at hsl;subst hr0;exact .inl ⟨hsl.1,by simp⟩
 ·rw [hb] at hsl;obtain ⟨h1,o,rfl,h3⟩:=hsl;obtain ⟨hf1,hf2,_⟩:=hh.fresh _ _ _ ho hb;have hlen:((rows.drop off).take len).length=len:=by simp;omega
  have hl:=gJ hall;have hcs:=(Cells.of_heap hheap).take (rows.length*t.size);rw [htake] at hcs;have hcs2:=(hcs.drop (off*t.size)).take (len*t.size);rw [kC css hl off,oG _ (fun c hc=>hl c (List.mem_of_mem_drop hc)) len,Nat.zero_add] at hcs2;have hN0:∀ b j,b<w.heap.size->N' b j->C.N β h b j:=fun b j hb hn=>.inl (hN b j hb hn)
  have zHn:aW (fun x c=>t.Rel w N' x c) ((rows.drop off).take len) ((css.drop off).take len):=((hall.drop off).take len).mono fun _ _ h=>h.mono (Keep.refl _ w) hN0
  refine .inr (.inl ⟨b,o,_,(css.drop off).take len,by rw [hlen],hf2,fun j _ _ hn=>hf1 j (hN b j hf2 hn),by omega,by omega,zHn,fun c hc=>hl c (List.mem_of_mem_drop (List.mem_of_mem_take hc)),?_⟩);rcases h3 with h3|⟨h3,_⟩
  ·rw [h3,hpz];exact hcs2
  ·have hl0:len=0:=by omega
   subst hl0;simpa using Cells.nil
theorem L.uR {h:List Ob}{l l':L}{cs:List Value}{N':Nat->Nat->Prop}(hd:l.deep h=some (true,l')) (hh:dW C β h w) (hN:∀ b j,b<w.heap.size->N' b j->C.N0 b j) (hr:l.Rel β w (C.N β h) cs):l'.Rel β' w N' cs∧l'.isD=true:=by
 have hN0:∀ b j,b<w.heap.size->N' b j->C.N β h b j:=fun b j hb hn=>.inl (hN b j hb hn)
 have plain:l.isD=true->l'=l->l'.Rel β' w N' cs∧l'.isD=true:=fun h1 h2=>by subst h2;exact ⟨L.Lf hN0 h1 hr,h1⟩
 cases l with
 | val t x=>simp only [L.deep,aA,aB,true_and] at hd;exact plain rfl hd.symm
 | lG=>simp only [L.deep,aA,aB,true_and] at hd;exact plain rfl hd.symm
 | dD=>simp only [L.deep,aA,aB,true_and] at hd;exact plain rfl hd.symm
 | lH t x off=>simp only [L.deep,aA,aB,true_and] at hd;exact plain rfl hd.symm
 | clo f cs =>
  cases cs with
  | nil=>simp only [L.deep,aA,aB,true_and] at hd;exact plain rfl hd.symm
  | cons _ _=>simp [L.deep] at hd
 | own id ver =>
  simp only [L.deep] at hd;split at hd
  ·rename_i e t v rows wr ho;simp only [aA,aB] at hd;obtain ⟨hv,rfl⟩:=hd;have hv:=aM hv;have hob:=hh.obj _ _ ho;simp only [Ob.Rel] at hob;obtain ⟨_,_,hpv,_,_,hpl,_⟩:=hob;simp only [L.Rel] at hr;obtain ⟨_,_,_,c,rfl,_,himp⟩:=hr;have hsl:=himp (by rw [hpv,hv]);rw [hpl] at hsl;have:=zJq hh ho hsl (by omega) hN;rw [List.drop_zero,List.take_length] at this;exact ⟨by simpa only [L.Rel] using this,rfl⟩
  ·cases hd
 | sl id ver off len =>
  simp only [L.deep] at hd;split at hd
  ·rename_i e t v rows wr ho;simp only [aA,aB,aD] at hd;obtain ⟨⟨hv,hle⟩,rfl⟩:=hd;have hv:=aM hv;have hob:=hh.obj _ _ ho;simp only [Ob.Rel] at hob;obtain ⟨_,_,hpv,_,_,hpl,_⟩:=hob;simp only [L.Rel] at hr;obtain ⟨_,_,_,c,rfl,_,himp⟩:=hr;exact ⟨by simpa only [L.Rel] using zJq hh ho (himp (by rw [hpv,hv])) (bR hle) hN,rfl⟩
  ·cases hd
 | _=>simp [L.deep] at hd
theorem zFg {h:List Ob}{N':Nat->Nat->Prop}(hh:dW C β h w) (hN:∀ b j,b<w.heap.size->N' b j->C.N0 b j):∀ {ls ls':List L}{cs:List Value},Nn h ls=some (true,ls')->aJ β w (C.N β h) ls cs->aJ β' w N' ls' cs∧bP L.isD ls'=true
 | [],ls',cs,hd,hr=>by
  simp only [Nn,aA,aB,true_and] at hd;subst hd;exact ⟨hr,rfl⟩
 | l::ls,ls',cs,hd,hr=>by
  simp only [Nn] at hd;split at hd
  ·rename_i c x d r h1 h2;simp only [aA,aB,aD] at hd;obtain ⟨⟨rfl,rfl⟩,rfl⟩:=hd;obtain ⟨c1,c2,e,r1,r2⟩:=hr;obtain ⟨g1,g2⟩:=L.uR (β':=β') h1 hh hN r1;obtain ⟨g3,g4⟩:=zFg hh hN h2 r2;exact ⟨⟨c1,c2,e,g1,g3⟩,by simp only [bP,g2,g4,Bool.and_self]⟩
  ·cases hd
theorem V.uR {h:List Ob}{v v':V}{x:Value}{N':Nat->Nat->Prop}(hd:v.deep h=some (true,v')) (hh:dW C β h w) (hN:∀ b j,b<w.heap.size->N' b j->C.N0 b j) (hr:v.Rel β w (C.N β h) x):v'.Rel β' w N' x∧v'.isD=true:=by
 cases v with
 | one l =>
  simp only [V.deep] at hd;split at hd
  ·rename_i c y h1;simp only [aA,aB] at hd;obtain ⟨rfl,rfl⟩:=hd;exact L.uR h1 hh hN hr
  ·cases hd
 | agg ls =>
  simp only [V.deep] at hd;split at hd
  ·rename_i c y h1;simp only [aA,aB] at hd;obtain ⟨rfl,rfl⟩:=hd;obtain ⟨cs,e,hr⟩:=hr;obtain ⟨g1,g2⟩:=zFg (β':=β') hh hN h1 hr;exact ⟨⟨cs,e,g1⟩,g2⟩
  ·cases hd
 | _=>simp [V.deep] at hd
theorem Jy {P:Program}{t:TypeId}{x y:Value}(h:(Instr.loadAt t x).run P w=.ok y w):∃ a,x=.pointer (some a)∧(loadVar t a).run P w=.ok y w:=by
 cases x<;>simp only [Instr.loadAt,Instr.sureAddr,Sem.run_bind,run_stuck,Result.andThen,reduceCtorEq] at h
 rename_i a;cases a with
 | none=>simp only [run_stuck,reduceCtorEq] at h
 | some a=>exact ⟨a,rfl,by simpa only [Instr.loadAt,Instr.sureAddr,Sem.run_bind,Sem.run_pure,Result.andThen_ok] using h⟩
def sD (tmps:Array Value):ResultVar->Sem Value | .tmp t=>pure (tmps.getD t undef) | .cell a t=>do loadVar t (<- asAddr (tmps.getD a undef))
theorem Np {σ:St}{a:Act}(hs:Sim C β σ a w) (t:Nat):(σ.r.getD t .bS).Rel β w (C.N β σ.h) (a.tmps.getD t undef):=aS hs (.tmp t)
theorem zYl {σ:St}{a:Act}{rv:ResultVar}{s:Sum L (List L)}{N':Nat->Nat->Prop}(hT:bI C.P T) (hs:Sim C β σ a w) (hN:∀ b j,b<w.heap.size->N' b j->C.N0 b j) (h:zRp T σ rv=some (true,s)) :
  ∃ x,(sD a.tmps rv).run C.P w=.ok x w∧fK β' w N' s x∧zQt s=true:=by
 cases rv with
 | tmp t =>
  simp only [zRp] at h;have hr:=Np hs t;refine ⟨a.tmps.getD t undef,rfl,?_⟩;split at h
  ·rename_i c l hd;simp only [aA,aB] at h;obtain ⟨rfl,rfl⟩:=h;exact V.uR (β':=β') hd hs.heap hN hr
  ·rename_i c ls hd;simp only [aA,aB] at h;obtain ⟨rfl,rfl⟩:=h;exact V.uR (β':=β') hd hs.heap hN hr
  ·cases h
 | cell t ty =>
  simp only [zRp] at h;have hr:=Np hs t;split at h
  ·rename_i l hl;rw [hl] at hr;split at h
   ·rename_i c v hv;split at h
    ·rename_i d l2 hd;simp only [aA,aB,aD] at h;obtain ⟨⟨rfl,rfl⟩,rfl⟩:=h;obtain ⟨y,h1,h2⟩:=Es hT hv hs.heap hr;obtain ⟨ad,h3,h4⟩:=Jy h1;refine ⟨y,?_,V.uR (β':=β') hd hs.heap hN h2⟩;simp only [sD,h3,asAddr,Sem.run_bind,Sem.run_pure,Result.andThen_ok,h4]
    ·rename_i d ls2 hd;simp only [aA,aB,aD] at h;obtain ⟨⟨rfl,rfl⟩,rfl⟩:=h;obtain ⟨y,h1,h2⟩:=Es hT hv hs.heap hr;obtain ⟨ad,h3,h4⟩:=Jy h1;refine ⟨y,?_,V.uR (β':=β') hd hs.heap hN h2⟩;simp only [sD,h3,asAddr,Sem.run_bind,Sem.run_pure,Result.andThen_ok,h4]
    ·cases h
   ·cases h
  ·cases h
theorem zFh {σ:St}{a:Act}{N':Nat->Nat->Prop}(hT:bI C.P T) (hs:Sim C β σ a w) (hN:∀ b j,b<w.heap.size->N' b j->C.N0 b j):∀ {rs:List ResultVar}{vs:List (Sum L (List L))},Vd T σ rs=some (true,vs) ->
  ∀ acc:Array Value,∃ us:List Value,(rs.foldlM (fun (acc:Array Value) rv=>do let v <- sD a.tmps rv;pure (acc.push v)) acc).run C.P w=.ok (acc++us.toArray) w∧aW (fK β' w N') vs us ∧
   bP zQt vs=true
 | [],vs,h,acc=>by
  simp only [Vd,aA,aB,true_and] at h;subst h;exact ⟨[],by simp,trivial,rfl⟩
 | rv::rs,vs,h,acc=>by
  simp only [Vd] at h;split at h
  ·rename_i c s d r h1 h2;simp only [aA,aB,aD] at h;obtain ⟨⟨rfl,rfl⟩,rfl⟩:=h;obtain ⟨x,g1,g2,g3⟩:=zYl (β':=β') hT hs hN h1;obtain ⟨us,g4,g5,g6⟩:=zFh hT hs hN h2 (acc.push x);refine ⟨x::us,?_,⟨g2,g5⟩,by simp only [bP,g6,Bool.and_true];exact g3⟩;simp only [List.foldlM_cons,Sem.run_bind,g1,Result.andThen_ok,Sem.run_pure,g4];simp
  ·cases h
end
def Fp (vs:List V) (n:Nat):List V:=vs++List.replicate (n-vs.length) .bS
end Go.Dec
namespace Go.Dec
@[reducible] def dK:List Ty->Type
 | []=>Unit
 | [t]=>t.den
 | t::u::r=>t.den × dK (u::r)
def oK:List Value->Value | [u]=>u | us => .tuple us.toArray
def yEp (bor:Bool) (N:Nat->Nat->Prop):Nat->Nat->Prop :=
 match bor with
 | true=>fun _ _=>False
 | false=>N
def iK (w:World) (N:Nat->Nat->Prop):(ts:List Ty)->dK ts->List Value->Prop
 | [],_,us=>us=[]
 | [t],x,us=>∃ u,us=[u]∧t.bM w N x u
 | t::s::r,x,us=>∃ u us',us=u::us'∧t.bM w N x.1 u∧iK w N (s::r) x.2 us'
def vOf (t:Ty) (x:t.den):V :=
 match t.isAgg with
 | true=>.agg (explode t x)
 | false=>.one (.val t x)
def sOf (t:Ty) (x:t.den):Sum L (List L) :=
 match t.isAgg with
 | true=>.inr (explode t x)
 | false=>.inl (.val t x)
def Nq:(ts:List Ty)->dK ts->List V | [],_=>[] | [t],x=>[vOf t x] | t :: s :: r,x=>vOf t x.1 :: Nq (s :: r) x.2
def zRq:(ts:List Ty)->dK ts->List (Sum L (List L)) | [],_=>[] | [t],x=>[sOf t x] | t :: s :: r,x=>sOf t x.1 :: zRq (s :: r) x.2
def zRr (t:Ty) (ls:List L):Option t.den :=
 match cK t ls with
 | some (x,[])=>some x
 | _=>none
def zDk (t:Ty) (s:Sum L (List L)):Option t.den :=
 match t.isAgg,s with
 | true,.inr ls=>zRr t ls
 | false,.inl l=>l.asT t
 | _,_=>none
def Jg:(ts:List Ty)->List (Sum L (List L))->Option (dK ts)
 | [],[]=>some ()
 | [t],[s]=>zDk t s
 | t::u::r,s::ss =>
  match zDk t s,Jg (u::r) ss with
  | some x,some y=>some (x,y)
  | _,_=>none
 | _,_=>none
def V.sum:V->Option (Sum L (List L)) | .one l=>some (.inl l) | .agg ls=>some (.inr ls) | _=>none
def Yg (bor:Bool) (h:List Ob) (t:Ty) (v:V):Option (Bool × t.den) :=
 match bor with
 | true =>
  match v.deep h with
  | some (c,u) =>
   match u.sum with
   | some s=>match zDk t s with
    | some x=>some (c,x)
    | none=>none
   | none=>none
  | none=>none
 | false =>
  match v.isD,v.sum with
  | true,some s=>match zDk t s with
   | some x=>some (true,x)
   | none=>none
  | _,_=>none
def xG (bor:Bool) (h:List Ob):(ts:List Ty)->List V->Option (Bool × dK ts)
 | [],[]=>some (true,())
 | [t],[v]=>Yg bor h t v
 | t::u::r,v::vs =>
  match Yg bor h t v,xG bor h (u::r) vs with
  | some (c,x),some (d,y)=>some (c&&d,(x,y))
  | _,_=>none
 | _,_=>none
def Ty.flat:Ty->Bool | .pair a b=>a.flat&&b.flat | .arr _ a=>a.flat | .slice _=>false | .clip _=>false | .opq=>false | _=>true
section
variable {β:Nat->Pl}{w:World}{N:Nat->Nat->Prop}
theorem zOy {t:Ty}{x:t.den}{u:Value}(h:t.bM w N x u):(vOf t x).Rel β w N u:=by
 unfold vOf;unfold Ty.bM at h;cases ha:t.isAgg with
 | true =>
  rw [ha,if_pos rfl] at h;obtain ⟨cs,e,h⟩:=h;exact ⟨cs,e,iP h⟩
 | false =>
  rw [ha,if_neg (by simp)] at h;simp only [V.Rel,L.Rel];exact h
theorem zFi:∀ {ts:List Ty}{x:dK ts}{us:List Value},iK w N ts x us->lK β w N (Nq ts x) us
 | [],_,_,h=>by simp only [iK] at h;subst h;trivial
 | [t],x,_,h=>by obtain ⟨u,rfl,h⟩:=h;exact ⟨zOy h,trivial⟩
 | t::s::r,x,_,h=>by
  obtain ⟨u,us,rfl,h,h2⟩:=h;exact ⟨zOy h,zFi h2⟩
theorem zOz {t:Ty}{x:t.den}{u:Value}(h:t.bM w N x u):fK β w N (sOf t x) u:=by
 unfold sOf;unfold Ty.bM at h;cases ha:t.isAgg with
 | true =>
  rw [ha,if_pos rfl] at h;obtain ⟨cs,e,h⟩:=h;exact ⟨cs,e,iP h⟩
 | false =>
  rw [ha,if_neg (by simp)] at h;simp only [fK,L.Rel];exact h
theorem zFj:∀ {ts:List Ty}{x:dK ts}{us:List Value},iK w N ts x us->aW (fK β w N) (zRq ts x) us
 | [],_,_,h=>by simp only [iK] at h;subst h;trivial
 | [t],x,_,h=>by obtain ⟨u,rfl,h⟩:=h;exact ⟨zOz h,trivial⟩
 | t::s::r,x,_,h=>by
  obtain ⟨u,us,rfl,h,h2⟩:=h;exact ⟨zOz h,zFj h2⟩
theorem zUz {t:Ty}{ls:List L}{x:t.den}{cs:List Value}(h:zRr t ls=some x) (hr:aJ β w N ls cs):t.Rel w N x cs:=by
 unfold zRr at h;split at h
 ·rename_i y hi;simp only [aA] at h;subst h;obtain ⟨c1,c2,e,h1,h2⟩:=nU hi hr;simp only [aJ] at h2;subst h2;rw [List.append_nil] at e;subst e;exact h1
 ·cases h
theorem Nr {t:Ty}{s:Sum L (List L)}{x:t.den}{u:Value}(h:zDk t s=some x) (hr:fK β w N s u):t.bM w N x u:=by
 unfold zDk at h;unfold Ty.bM;split at h
 ·rename_i ls ha;rw [ha,if_pos rfl];obtain ⟨cs,e,hr⟩:=hr;exact ⟨cs,e,zUz h hr⟩
 ·rename_i l ha;rw [ha,if_neg (by simp)];exact L.Uo h hr
 ·cases h
theorem zFk:∀ {ts:List Ty}{ss:List (Sum L (List L))}{x:dK ts}{us:List Value},Jg ts ss=some x->aW (fK β w N) ss us->iK w N ts x us
 | [],[],_,[],_,_=>rfl
 | [t],[s],x,[u],h,hr=>⟨u,rfl,Nr h hr.1⟩
 | t::u::r,s::ss,x,v::vs,h,hr=>by
  simp only [Jg] at h;split at h
  ·rename_i y z h1 h2;simp only [aA] at h;subst h;exact ⟨v,vs,rfl,Nr h1 hr.1,zFk h2 hr.2⟩
  ·cases h
 | [],[],_,_::_,_,hr=>hr.elim
 | [],_::_,_,_,h,_=>by simp [Jg] at h
 | [t],[],_,_,h,_=>by simp [Jg] at h
 | [t],[s],_,[],_,hr=>hr.elim
 | [t],[s],_,_::_::_,_,hr=>hr.2.elim
 | [t],_::_::_,_,_,h,_=>by simp [Jg] at h
 | t::u::r,[],_,_,h,_=>by simp [Jg] at h
 | t::u::r,s::ss,_,[],_,hr=>hr.elim
theorem V.zDl {v:V}{s:Sum L (List L)}{u:Value}(h:v.sum=some s) (hr:v.Rel β w N u):fK β w N s u:=by
 cases v<;>simp only [V.sum,aA,reduceCtorEq] at h<;>subst h<;>exact hr
theorem iK.mono {w':World}{N':Nat->Nat->Prop}(hk:Keep N w w') (hN:∀ b j,b<w.heap.size->N' b j->N b j):∀ {ts:List Ty}{x:dK ts}{us:List Value},iK w N ts x us->iK w' N' ts x us
 | [],_,_,h=>h
 | [t],x,_,h=>by obtain ⟨u,e,h⟩:=h;exact ⟨u,e,h.mono hk hN⟩
 | t::s::r,x,_,h=>by obtain ⟨u,us,e,h,h2⟩:=h;exact ⟨u,us,e,h.mono hk hN,h2.mono hk hN⟩
theorem Ty.Rel.flat {N':Nat->Nat->Prop}{w':World}:∀ {t:Ty}{x:t.den}{cs:List Value},t.flat=true->t.Rel w N x cs->t.Rel w' N' x cs
 | .unit,_,_,_,h=>h
 | .bool,_,_,_,h=>h
 | .int _,_,_,_,h=>h
 | .str,_,_,_,h=>h
 | .err,_,_,_,h=>h
 | .opq,_,_,hf,_=>by cases hf
 | .slice _,_,_,hf,_=>by cases hf
 | .clip _,_,_,hf,_=>by cases hf
 | .pair a b,_,_,hf,h=>by
  simp only [Ty.flat,aD] at hf;obtain ⟨c1,c2,e,h1,h2⟩:=h;exact ⟨c1,c2,e,Ty.Rel.flat hf.1 h1,Ty.Rel.flat hf.2 h2⟩
 | .arr n a,_,_,hf,h=>by
  simp only [Ty.flat] at hf;obtain ⟨h0,css,e,h1⟩:=h;exact ⟨h0,css,e,h1.mono fun x c hx=>Ty.Rel.flat hf hx⟩
theorem Ty.bM.flat {N':Nat->Nat->Prop}{w':World}{t:Ty}{x:t.den}{u:Value}(hf:t.flat=true) (h:t.bM w N x u):t.bM w' N' x u:=by
 unfold Ty.bM at *;split
 ·rename_i ha;rw [if_pos ha] at h;obtain ⟨cs,e,h⟩:=h;exact ⟨cs,e,h.flat hf⟩
 ·rename_i ha;rw [if_neg ha] at h;exact h.flat hf
theorem iK.flat {N':Nat->Nat->Prop}{w':World}:∀ {ts:List Ty}{x:dK ts}{us:List Value},bP Ty.flat ts=true->iK w N ts x us->iK w' N' ts x us
 | [],_,_,_,h=>h
 | [t],x,_,hf,h=>by
  simp only [bP,Bool.and_true] at hf;obtain ⟨u,e,h⟩:=h;exact ⟨u,e,h.flat hf⟩
 | t::s::r,x,_,hf,h=>by
  simp only [bP,aD] at hf;obtain ⟨u,us,e,h,h2⟩:=h;exact ⟨u,us,e,h.flat hf.1,iK.flat (by simp only [bP,aD];exact hf.2) h2⟩
end
def Pure (P:Program) (f:FuncId) (as rs:List Ty) (F:dK as->Option (dK rs)):Prop :=
 iJ P f=true∧∀ x y,F x=some y->∀ (w:World) (N:Nat->Nat->Prop) (xs:List Value),Glob P w->(∀ b j,N b j->b<w.heap.size)->iK w N as x xs ->
  Calls P f xs.toArray w fun e w'=>∃ us:List Value,e=.returned (oK us)∧w'.os=w.os∧w'.tape=w.tape∧w'.output=w.output∧Keep (fun _ _=>False) w w'∧iK w' N rs y us
def zRs (T:Tab) (res:List ResultVar) (rs:List Ty) (σ:St):Option (dK rs) :=
 match Vd T σ res with
 | some (c,vs) =>
  match Jg rs vs with
  | some y=>chk c (some y)
  | none=>none
 | none=>none
def zRt (T:Tab) (res:List ResultVar) (rs:List Ty):K (dK rs):=fun e σ =>
 match e with
 | .normal=>zRs T res rs σ
 | .ret=>zRs T res rs σ
 | _=>none
section
variable {T:Tab}{P:Program}
theorem zJr {C:Ctx}{β β':Nat->Pl}{w:World}{σ:St}{a:Act}{fn:Func}{vs:List (Sum L (List L))}{N':Nat->Nat->Prop}(hT:bI C.P T) (hs:Sim C β σ a w) (hN:∀ b j,b<w.heap.size->N' b j->C.N0 b j) (h:Vd T σ fn.results.toList=some (true,vs)) :
  ∃ us:List Value,(results fn a.tmps).run C.P w=.ok (oK us) w∧aW (fK β' w N') vs us:=by
 obtain ⟨us,h1,h2,_⟩:=zFh (β':=β') hT hs hN h #[];refine ⟨us,?_,h2⟩;have e0:results fn a.tmps=(do let vs <- fn.results.mapM (sD a.tmps);pure (if h:vs.size=1 then vs[0] else .tuple vs)):=by
  unfold results;congr 1
 have hm:(fn.results.mapM (sD a.tmps):Sem (Array Value)).run C.P w=.ok us.toArray w:=by
  rw [Array.mapM_eq_foldlM,<- Array.foldlM_toList];have e:(fun (acc:Array Value) rv=>do let v <- sD a.tmps rv;pure (acc.push v):Array Value->ResultVar->Sem (Array Value))=(fun (acc:Array Value) rv=>acc.push <$> sD a.tmps rv):=by
   funext acc rv;rfl
  rw [e] at h1;simpa using h1
 rw [e0];simp only [Sem.run_bind,hm,Result.andThen_ok,Sem.run_pure];match us with
 | []=>rfl
 | [u]=>rfl
 | u::v::us=>simp [oK]
theorem Rj:∀ cs:List Co,bP (Co.fx 0) cs=true
 | []=>rfl
 | c::cs=>by
  simp only [bP,Rj cs,Bool.and_true];cases c<;>first|rfl|simp [Co.fx]
theorem Dn {ρ:Type}:∀ an:An ρ,an.fx 0=true
 | .nil=>rfl
 | .mk l r c=>by simp only [An.fx,Dn l,Dn r,Rj,Bool.and_self]
 | .loop _ c0 c1 _ a=>by simp only [An.fx,Dn a,Rj,Bool.and_self]
 | .scope _ a b=>by simp only [An.fx,Dn a,Dn b,Bool.and_self]
 | .sem _=>rfl
 | .co c a=>by simp only [An.fx,Dn a,Rj,Bool.and_self]
 | .join _ c a=>by simp only [An.fx,Dn a,Rj,Bool.and_self]
theorem dR {f:FuncId}{fn:Func}{c:Code}{as rs:List Ty}{F:dK as->Option (dK rs)}{Γ:Orc (dK rs)}{an:An (dK rs)}(hf:P.funcs[f]?=some fn) (hb:fn.body=some c) (hh:iJ P f=true) (hT:bI P T) (hΓ:jM P Γ) (hm:P.follows .mixedOrders=true) (ha:zDi P 0 c an)
  (h:∀ x,ev Γ T c an ⟨Fp (Nq as x) fn.ntmps,[]⟩ (zRt T fn.results.toList rs)=F x):Pure P f as rs F:=by
 refine ⟨hh,fun x y hF w N xs hG hN hx=>?_⟩;rw [<- h x] at hF
 let C:Ctx:={ P:=P,N0:=N,w0:=w,Eb:=fun _ _=>False,glob:=fun w' h=>hG.keep fun b hb=>h.block b hb (fun _ h=>h),fix:=[] }
 let β0:Nat->Pl:=fun _=>⟨false,false,0,none,0,0,0,[]⟩
 have hargs:lK β0 w N (Nq as x) xs:=zFi hx;have hxl:(Nq as x).length=xs.length:=hargs.length;have uM:Sim C β0 ⟨Fp (Nq as x) fn.ntmps,[]⟩ { tmps:=xs.toArray++Array.replicate (fn.ntmps-xs.toArray.size) undef,defers:=[] } w:=by
  refine ⟨⟨by simp,fun _ _=>rfl,by simp,by simp,hN,Keep.refl _ _,aQ _,rfl,rfl,rfl,fun j o hj=>by cases hj⟩,rfl,by simp [Fp,hxl],?_⟩;intro i u hu;simp only [Fp] at hu;by_cases hi:i<(Nq as x).length
  ·rw [iG hi] at hu;have hi':i<xs.length:=by rw [<- hxl];exact hi
   have hr:=hargs.get i hi hi';rw [List.getElem?_eq_getElem hi] at hu;simp only [aA] at hu;subst hu;have:(xs.toArray++Array.replicate (fn.ntmps-xs.toArray.size) undef).getD i undef=xs[i]:=by
    rw [Array.getD_eq_getD_getElem?,Array.getElem?_append_left (by simpa using hi')];simp [hi']
   rw [this];refine hr.mono (Moves.refl β0) (Keep.refl _ w) (fun b j _ hb=>?_);rcases hb with hb|⟨id,o,ho,_⟩
   ·exact hb
   ·simp at ho
  ·rw [List.getElem?_append_right (by omega),List.getElem?_replicate] at hu;split at hu
   ·simp only [aA] at hu;subst hu;trivial
   ·cases hu
 refine calls_of_wp hf hb ?_;refine Yf (P:=P) hT hΓ hm c an ha (Dn an) _ _ y hF C β0 _ w _ rfl (aQ _) uM ?_;intro e x' σ' β' a' w' hs' hx' hk;have fin:zRs T fn.results.toList rs σ'=some y->x'=.ret∨x'=.normal->bodyPost P fn (fun e w'=>∃ us:List Value,e=.returned (oK us)∧w'.os=w.os∧w'.tape=w.tape∧w'.output=w.output∧Keep (fun _ _=>False) w w'∧iK w' N rs y us) x' a' w':=by
  intro hk hx';unfold zRs at hk;split at hk
  ·rename_i cc ss hrs;split at hk
   ·rename_i y' hd;obtain ⟨rfl,hk⟩:=gK hk;obtain rfl:=Option.some.inj hk;obtain ⟨us,h1,h2⟩:=zJr (C:=C) (β':=β0) (N':=N) (fn:=fn) hT hs' (fun _ _ _ hb=>hb) hrs;have hkeep:Keep (fun _ _=>False) w w':=hs'.heap.frame;have hR:=zFk hd h2;rcases hx' with rfl|rfl
    ·exact ⟨hs'.defers,_,h1,us,rfl,hs'.heap.os,hs'.heap.tape,hs'.heap.output,hkeep,hR⟩
    ·exact ⟨hs'.defers,_,h1,us,rfl,hs'.heap.os,hs'.heap.tape,hs'.heap.output,hkeep,hR⟩
   ·cases hk
  ·cases hk
 cases e with
 | normal=>obtain rfl:=hx';exact fin hk (.inr rfl)
 | ret=>obtain rfl:=hx';exact fin hk (.inl rfl)
 | exit i=>simp [zRt] at hk
 | goto l=>simp [zRt] at hk
 | pan t u=>simp [zRt] at hk
def dF (as rs:List Ty) (F:dK as->Option (dK rs)):PE where
 R:=dK rs
 use:=1
 run vs h:=match xG (bP Ty.flat rs) h as vs with
  | some (c,x)=>some (c,F x)
  | none=>none
 enc y _ h:=(zYk (zRq rs y),h)
theorem zJs {C:Ctx}{β:Nat->Pl}{h:List Ob}{w:World}{bor:Bool}{t:Ty}{v:V}{x:t.den}{u:Value}(hd:Yg bor h t v=some (true,x)) (hs:dW C β h w) (hr:v.Rel β w (C.N β h) u) :
  t.bM w (yEp bor (C.N β h)) x u:=by
 unfold Yg at hd;cases bor with
 | true =>
  simp only at hd ⊢;split at hd
  ·rename_i c v' hv;split at hd
   ·rename_i s hsum;split at hd
    ·rename_i y hy;simp only [aA,aB] at hd;obtain ⟨rfl,rfl⟩:=hd;obtain ⟨h1,_⟩:=V.uR (β':=β) (N':=fun _ _=>False) hv hs (fun _ _ _ h=>h.elim) hr;exact Nr hy (V.zDl hsum h1)
    ·cases hd
   ·cases hd
  ·cases hd
 | false =>
  simp only at hd ⊢;split at hd
  ·rename_i s hD hsum;split at hd
   ·rename_i y hy;simp only [aA,aB,true_and] at hd;subst hd;exact Nr hy (V.zDl hsum hr)
   ·cases hd
  ·cases hd
theorem zFl {C:Ctx}{β:Nat->Pl}{h:List Ob}{w:World}{bor:Bool}(hs:dW C β h w):∀ {ts:List Ty}{vs:List V}{x:dK ts}{us:List Value},xG bor h ts vs=some (true,x)->lK β w (C.N β h) vs us ->
  iK w (yEp bor (C.N β h)) ts x us
 | [],[],_,[],_,_=>rfl
 | [t],[v],x,[u],hd,hr=>⟨u,rfl,zJs hd hs hr.1⟩
 | t::s::r,v::vs,x,u::us,hd,hr=>by
  simp only [xG] at hd;split at hd
  ·rename_i c y d z h1 h2;simp only [aA,aB,aD] at hd;obtain ⟨⟨rfl,rfl⟩,rfl⟩:=hd;exact ⟨u,us,rfl,zJs h1 hs hr.1,zFl hs h2 hr.2⟩
  ·cases hd
 | [],[],_,_::_,_,hr=>hr.elim
 | [],_::_,_,_,h,_=>by simp [xG] at h
 | [t],[],_,_,h,_=>by simp [xG] at h
 | [t],[s],_,[],_,hr=>hr.elim
 | [t],[s],_,_::_::_,_,hr=>hr.2.elim
 | [t],_::_::_,_,_,h,_=>by simp [xG] at h
 | t::u::r,[],_,_,h,_=>by simp [xG] at h
 | t::u::r,s::ss,_,[],_,hr=>hr.elim
theorem zJt {h:List Ob}:∀ {l:L},l.isD=true->l.deep h=some (true,l)
 | .val ..,_=>rfl
 | .lG,_=>rfl
 | .dD,_=>rfl
 | .lH ..,_=>rfl
 | .clo f [],_=>rfl
 | .clo f (_::_),h=>by cases h
 | .ptr ..,h=>by cases h
 | .mG ..,h=>by cases h
 | .fO ..,h=>by cases h
 | .sl ..,h=>by cases h
 | .own ..,h=>by cases h
 | .bad _,h=>by cases h
 | .gH ..,h=>by cases h
theorem zFm {h:List Ob}:∀ {ls:List L},bP L.isD ls=true->Nn h ls=some (true,ls)
 | [],_=>rfl
 | l::ls,hd=>by
  simp only [bP,aD] at hd;simp only [Nn,zJt hd.1,zFm hd.2,Bool.and_self]
theorem zJu {bor:Bool}{t:Ty}{v:V}(hd:v.isD=true) (h h2:List Ob):Yg bor h t v=Yg bor h2 t v:=by
 cases bor with
 | false=>rfl
 | true =>
  unfold Yg;cases v with
  | one l=>simp only [V.deep,zJt (show l.isD=true from hd)]
  | agg ls=>simp only [V.deep,zFm (show bP L.isD ls=true from hd)]
  | _=>rfl
theorem zFn {bor:Bool}:∀ {ts:List Ty}{vs:List V}(_:bP V.isD vs=true) (h h2:List Ob),xG bor h ts vs=xG bor h2 ts vs
 | [],[],_,_,_=>rfl
 | [t],[v],hd,h,h2=>by
  simp only [bP,Bool.and_true] at hd;simp only [xG,zJu hd h h2]
 | t::s::r,v::vs,hd,h,h2=>by
  simp only [bP,aD] at hd;simp only [xG,zJu hd.1 h h2,zFn (ts:=s::r) hd.2 h h2]
 | [],_::_,_,_,_=>rfl
 | [t],[],_,_,_=>rfl
 | [t],_::_::_,_,_,_=>rfl
 | t::s::r,[],_,_,_=>rfl
theorem zJv {β:Nat->Pl}{w:World}{N:Nat->Nat->Prop}{ss:List (Sum L (List L))}{us:List Value}(h:aW (fK β w N) ss us):(zYk ss).Rel β w N (oK us):=by
 match ss,us,h with
 | [],[],_=>exact ⟨[],rfl,trivial⟩
 | [.inl l],[u],h=>exact h.1
 | [.inr ls],[u],h=>exact h.1
 | s::t::ss,u::v::us,h=>cases s<;>exact ⟨_,rfl,h⟩
theorem aV {f:FuncId}{as rs:List Ty}{F:dK as->Option (dK rs)}(h:Pure P f as rs F):(dF as rs F).OK P f:=by
 refine ⟨h.1,fun vs hp y hr C β w xs hP hs ha=>?_,fun _ vs h1 h2 hd=>⟨by simp only [dF];rw [zFn hd h1 h2],fun _=>rfl⟩,fun _ _ _ _=>rfl,fun h=>by cases h⟩;subst hP;simp only [dF] at hr;split at hr
 ·rename_i c x hd;simp only [aA,aB] at hr;obtain ⟨rfl,hF⟩:=hr;have hx:=zFl hs hd ha;have hn:∀ b j,C.N β hp b j->b<w.heap.size:=fun b j hb=>by
   rcases hb with hb|⟨id,o,ho,_,hbk⟩
   ·exact Nat.lt_of_lt_of_le (hs.n0 b j hb) hs.size
   ·exact (hs.dX id o b ho ⟨j,hbk⟩).2.1
  refine (h.2 x y hF w _ xs (C.glob w hs.frame) (fun b j hb=>?_) hx).mono ?_
  ·cases hfl:bP Ty.flat rs with
   | true=>rw [hfl] at hb;exact hb.elim
   | false=>rw [hfl] at hb;exact hn b j hb
  ·rintro e w' ⟨us,rfl,ho,ht,hop,hk,hy⟩;have hy':iK w' (C.N β hp) rs y us:=by
    cases hfl:bP Ty.flat rs with
    | true=>exact hy.flat hfl
    | false=>rw [hfl] at hy;exact hy
   refine ⟨_,_,β,⟨rfl,rfl⟩,Moves.refl β,hk.weaken fun _ _ h=>h.elim,fun _ _ _ h=>h,?_,_,rfl,zJv (zFj hy')⟩;refine ⟨fun id o hob=>(hs.obj id o hob).mono (Moves.refl β) (hk.weaken fun _ _ h=>h.elim) (fun _ _ _ h=>h) fun b hb=>hk.block b (hs.dX id o b hob hb).2.1 (fun _ h=>h),hs.dead,hs.jA,?_,hs.n0,hs.frame.oH hk fun _ _ _ h=>h.elim,Nat.le_trans hs.size hk.size,ho.trans hs.os,ht.trans hs.tape,hop.trans hs.output,hs.fixed⟩
   ·intro id o b hob hb;obtain ⟨k1,k2,k3⟩:=hs.dX id o b hob hb;exact ⟨k1,Nat.lt_of_lt_of_le k2 hk.size,k3⟩
 ·cases hr
def pes:List (FuncId × PE)->FuncId->Option PE
 | [],_=>none
 | (g,e)::r,f=>match Nat.beq g f with
  | true=>some e
  | false=>pes r f
def orc (ρ:Type) (l:List (FuncId×PE)):Orc ρ := { pure:=pes l,gen:=fun _ _ _ _=>none }
theorem yEq {ρ:Type}:∀ {l:List (FuncId × PE)},(∀ p∈l,p.2.OK P p.1)->jM P (orc ρ l):=by
 intro l h;refine ⟨fun f e he=>?_,fun _ _ _ _ _ h=>by cases h⟩;simp only [orc] at he;induction l with
 | nil=>cases he
 | cons p r ih =>
  obtain ⟨g,e'⟩:=p;simp only [pes] at he;split at he
  ·rename_i hb;have:=aM hb;subst this;simp only [aA] at he;subst he;exact h _ (.head _)
  ·exact ih (fun p hp=>h p (.tail _ hp)) he
theorem all_nil {Q:FuncId × PE->Prop}:∀ p∈([]:List (FuncId × PE)),Q p:=fun _ h=>by cases h
theorem all_cons {Q:FuncId × PE->Prop}{p:FuncId × PE}{l:List (FuncId × PE)}(h:Q p) (hl:∀ q∈l,Q q):∀ q∈p::l,Q q:=fun q hq=>by
 cases hq with
 | head=>exact h
 | tail _ hq=>exact hl q hq
end
end Go.Dec
