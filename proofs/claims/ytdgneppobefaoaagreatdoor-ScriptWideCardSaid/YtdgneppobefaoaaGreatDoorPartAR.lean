/- Part of a proof over this seat: a library of my own, and what it says of this seat. No statement is proved here. -/
import Derived.Test.YtdgneppobefaoaaGreatDoorPartAQ
import Derived.Test.YtdgneppobefaoaaGreatDoorPartAO
import Derived.Scope
namespace Go.Ce
section
variable {P:Program} {lo:Nat} {β:Bt} {A:W} {w:World} {I:T CI} {evf:Operand->Option AV} {ρ:Operand->Value}
theorem zJm {l:List Nat} {n:Nat} (h:Zj l=some n):l.reverse.toArray.back?=some n:=by
 cases l with
 | nil=>simp [Zj] at h
 | cons a l =>
  simp only [Zj,aA] at h
  subst h
  simp
theorem Sw {n:Nat}:∀ {es:List (AV × AV × Nat)} {ms:List MapEntry} {e:AV × AV},Rz n es=some e->aW β es ms->∃ m,ms.find? (·.born == n)=some m∧e.1.Rel β m.key∧e.2.Rel β m.val
 | [],_,_,h,_=>by simp [Rz] at h
 | a :: es,ms,e,h,hr=>by
  obtain ⟨x,xs,rfl,h1,h2,h3,h4⟩:=hr
  simp only [Rz,cnd] at h
  split at h
  ·rename_i hb
   simp only [aA] at h
   subst h
   have hb:=aG hb
   exact ⟨x,by rw [List.find?_cons]; simp [<- h3,hb],h1,h2⟩
  ·rename_i hb
   obtain ⟨m,k1,k2⟩:=Sw h h4
   refine ⟨m,?_,k2⟩
   have hne:(x.born == n)=false:=by
    rw [beq_eq_false_iff_ne]
    intro e1
    rw [<- h3] at e1
    rw [e1,Nat.beq_refl] at hb
    cases hb
   rw [List.find?_cons,hne]
   exact k1
theorem zEr (hW:aX lo β A w) {x v:AV} {u:Value} (h:zBs A x=some v) (hu:x.Rel β u):∃ y,(Instr.entry u).run P w=.ok y w∧v.Rel β y:=by
 unfold zBs at h
 split at h
 ·rename_i id
  split at h
  ·rename_i m since seen st hB
   split at h
   ·rename_i es clk hM
    replace h:=aM h; obtain ⟨hc,h⟩:=h
    have hc:=aG hc
    subst hc
    replace h:=aC h; obtain ⟨n,hn,h⟩:=h
    replace h:=aC h; obtain ⟨e,he,h⟩:=h
    simp only [aA] at h
    subst h
    obtain ⟨bl,o,k,hb,hlt,rfl,bm,nm,hbm,hit⟩:=hW.blk _ _ hB
    obtain ⟨b',o',n',hb',rfl⟩:=hu
    rw [hb] at hb'
    simp only [aA,aB] at hb'
    obtain ⟨rfl,rfl,rfl⟩:=hb'
    obtain ⟨bm',o2,n2,hb2,hlt2,rfl,ms,hm,hrel⟩:=hW.blk _ _ hM
    rw [hbm] at hb2
    simp only [aA,aB] at hb2
    obtain ⟨rfl,_,rfl⟩:=hb2
    have hget:(getObj bl).run P w=.ok (.mapIter (some bm) since seen.reverse.toArray clk) w:=by simp [getObj,Sem.run,hit]
    have hgm:=qG (P:=P) hm
    obtain ⟨y,hy,h1,h2⟩:=Sw he hrel
    have hf:ms.toArray.find? (·.born == n)=some y:=by simpa using hy
    have hl:=zJm hn
    refine ⟨.tuple #[y.key,y.val],?_,_,rfl,_,_,rfl,h1,_,_,rfl,h2,rfl⟩
    simp only [Instr.entry,Sem.run_bind,Nat.add_zero,hget,Result.andThen_ok,hgm,hl,bne_self_eq_false,Bool.false_eq_true,if_false,hf,Sem.run_pure]
   ·cases h
  ·cases h
 ·cases h
theorem zCc (hI:TOK P I) {xt asd:TypeId} {x v:AV} {ok:Bool} {u:Value} (h:Vb I xt asd x ok=some v) (hu:x.Rel β u):∃ y,(Instr.typeAssert u xt asd ok).run P w=.ok y w∧v.Rel β y:=by
 unfold Vb at h
 replace h:=aC h; obtain ⟨ai,hai,h⟩:=h
 have hok:=hI _ _ hai
 obtain ⟨d,hd,hdk⟩:=hok.und
 split at h
 ·cases h
 ·rename_i t a hne
  obtain ⟨y,rfl,hy⟩:=hu
  have hni:∀ ms,d ≠ .interface ms:=fun ms e=>by
   subst e
   exact hne hdk.symm
  unfold cnd at h
  split at h
  ·rename_i ht
   have ht:=aG ht
   subst ht
   simp only [aA] at h
   subst h
   refine ⟨if ok then .tuple #[y,.bool true] else y,?_,?_⟩
   ·cases d <;> first | (exact absurd rfl (hni _)) | simp [Instr.typeAssert,run_underlying hd]
   ·cases ok
    ·exact hy
    ·exact ⟨_,rfl,_,_,rfl,hy,_,_,rfl,rfl,rfl⟩
  ·rename_i ht
   have ht:¬ t=asd:=fun e=>by subst e; rw [Nat.beq_refl] at ht; cases ht
   split at h
   ·replace h:=aC h; obtain ⟨z,hz,h⟩:=h
    simp only [aA] at h
    subst h
    obtain ⟨zv,hzr,nV⟩:=Gi (w:=w) (β:=β) hok hz
    refine ⟨.tuple #[zv,.bool false],?_,_,rfl,_,_,rfl,nV,_,_,rfl,rfl,rfl⟩
    cases d <;> first | (exact absurd rfl (hni _)) | simp [Instr.typeAssert,run_underlying hd,ht,hzr]
   ·cases h
 ·rename_i hne
  have hni:∀ ms,d ≠ .interface ms:=fun ms e=>by
   subst e
   exact hne hdk.symm
  simp only [AV.Rel] at hu
  subst hu
  split at h
  ·replace h:=aC h; obtain ⟨z,hz,h⟩:=h
   simp only [aA] at h
   subst h
   obtain ⟨zv,hzr,nV⟩:=Gi (w:=w) (β:=β) hok hz
   refine ⟨.tuple #[zv,.bool false],?_,_,rfl,_,_,rfl,nV,_,_,rfl,rfl,rfl⟩
   cases d <;> first | (exact absurd rfl (hni _)) | simp [Instr.typeAssert,run_underlying hd,hzr]
  ·cases h
 ·cases h
theorem Yk (hI:TOK P I) (hW:aX lo β A w) {b:Builtin} {ts:Array TypeId} {ty:TypeId} {cs:Array Bool} {xs:List AV} {us:List Value} {v:AV} {A':W} (h:Ox lo I A b ts.toList xs=some (v,A')) (hu:AV.aN β xs us) :
  ∃ y β' w',(builtin b ts ty cs us.toArray).run P w=.ok (.value y) w'∧Go lo β A w β' A' w'∧v.Rel β' y:=by
 have wrap:∀ {s:Sem Value},(builtin b ts ty cs us.toArray)=(do pure (.value (<- s)))->Gives P lo β A w s v A'->∃ y β' w',(builtin b ts ty cs us.toArray).run P w=.ok (.value y) w'∧Go lo β A w β' A' w'∧v.Rel β' y:=fun {s} he ⟨y,β',w',hr,hg,hv⟩=>⟨y,β',w',by rw [he]; simp [hr],hg,hv⟩
 unfold Ox at h
 split at h
 ·rename_i t x hts
  replace h:=aC h; obtain ⟨r,hr,h⟩:=h
  simp only [aA,aB] at h
  obtain ⟨rfl,rfl⟩:=h
  obtain ⟨u,us',rfl,h1,h2⟩:=hu
  simp only [AV.aN] at h2
  subst h2
  have:ts=#[t]:=Array.toList_inj.1 hts
  subst this
  exact wrap rfl (Gives.pure hW (zMo hI hW hr h1))
 ·rename_i t tx s x hts
  obtain ⟨u,us',rfl,h1,u2,us2,rfl,h2,h3⟩:=hu
  simp only [AV.aN] at h3
  subst h3
  have:ts=#[t,tx]:=Array.toList_inj.1 hts
  subst this
  split at h
  ·exact wrap rfl (Yj hI hW h h1 h2)
  ·exact wrap rfl (zCa hI hW h h1 h2)
 ·rename_i t x hts
  replace h:=aC h; obtain ⟨r,hr,h⟩:=h
  simp only [aA,aB] at h
  obtain ⟨rfl,rfl⟩:=h
  obtain ⟨u,us',rfl,h1,h2⟩:=hu
  simp only [AV.aN] at h2
  subst h2
  have:ts=#[t]:=Array.toList_inj.1 hts
  subst this
  exact wrap rfl (Gives.pure hW (zMp hI hr h1))
 ·rename_i t tx s x hts
  obtain ⟨u,us',rfl,h1,u2,us2,rfl,h2,h3⟩:=hu
  simp only [AV.aN] at h3
  subst h3
  have:ts=#[t,tx]:=Array.toList_inj.1 hts
  subst this
  exact wrap rfl (zJi hI hW h h1 h2)
 ·simp only [aA,aB] at h
  obtain ⟨rfl,rfl⟩:=h
  obtain ⟨u,us',rfl,h1,h2⟩:=hu
  simp only [AV.aN] at h2
  subst h2
  simp only [AV.Rel] at h1
  subst h1
  exact wrap rfl (Gives.pure hW ⟨_,rfl,rfl⟩)
 ·simp only [aA,aB] at h
  obtain ⟨rfl,rfl⟩:=h
  obtain ⟨u,us',rfl,h1,h2⟩:=hu
  simp only [AV.aN] at h2
  subst h2
  simp only [AV.Rel] at h1
  subst h1
  exact wrap rfl (Gives.pure hW ⟨_,rfl,rfl⟩)
 ·rename_i k x j y
  replace h:=aM h; obtain ⟨hk,h⟩:=h
  have hk:=of_decide_eq_true hk
  subst hk
  simp only [aA,aB] at h
  obtain ⟨rfl,rfl⟩:=h
  obtain ⟨u,us',rfl,h1,u2,us2,rfl,h2,h3⟩:=hu
  simp only [AV.aN] at h3
  subst h3
  simp only [AV.Rel] at h1 h2
  subst h1 h2
  refine wrap rfl (Gives.pure hW ⟨.complex k x y,?_,rfl⟩)
  show (if k=k then (pure (.complex k x y):Sem Value) else stuck _).run P w=_
  rw [if_pos rfl]
  rfl
 ·replace h:=aC h; obtain ⟨r,hr,h⟩:=h
  simp only [aA,aB] at h
  obtain ⟨rfl,rfl⟩:=h
  unfold Lm at hr
  split at hr
  ·obtain ⟨u,us',rfl,h1,u2,us2,rfl,h2,h3⟩:=hu
   simp only [AV.aN] at h3
   subst h3
   simp only [AV.Rel] at h1 h2
   subst h1 h2
   rename_i k x j y
   simp only [cnd,aA] at hr
   subst hr
   refine wrap rfl (Gives.pure hW ⟨.int k (if y > x then y else x),by simp [Builtin.max_,Builtin.max2],?_⟩)
   by_cases hlt:x < y
   ·simp [hlt,AV.Rel]
   ·simp [hlt,AV.Rel]
  ·cases hr
 ·replace h:=aC h; obtain ⟨r,hr,h⟩:=h
  simp only [aA,aB] at h
  obtain ⟨rfl,rfl⟩:=h
  unfold Lm at hr
  split at hr
  ·obtain ⟨u,us',rfl,h1,u2,us2,rfl,h2,h3⟩:=hu
   simp only [AV.aN] at h3
   subst h3
   simp only [AV.Rel] at h1 h2
   subst h1 h2
   rename_i k x j y
   simp only [cnd,aA] at hr
   subst hr
   refine wrap rfl (Gives.pure hW ⟨.int k (if y < x then y else x),by simp [Builtin.min_,Builtin.min2],?_⟩)
   by_cases hlt:y < x
   ·simp [hlt,AV.Rel]
   ·simp [hlt,AV.Rel]
  ·cases hr
 ·cases h
theorem Vf (he:tF β evf ρ) {xs:Array Operand} {l:List AV} (h:avs evf xs.toList=some l):AV.aN β l (xs.map ρ).toList:=by
 rw [Array.toList_map]
 exact Pj he h
theorem Po (he:tF β evf ρ) {x:Option Operand} {a:Option AV} (h:aOp.opt evf x=some a):mZ β a (x.map ρ):=by
 unfold aOp.opt at h
 split at h
 ·simp only [aA] at h; subst h; rfl
 ·replace h:=aC h; obtain ⟨v,hv,h⟩:=h
  simp only [aA] at h
  subst h
  exact ⟨_,rfl,he _ _ hv⟩
def Ab (P:Program) (lo:Nat) (β:Bt) (A:W) (w:World) (s:Sem Next) (v:AV) (A':W):Prop :=
 ∃ n y β' w',s.run P w=.ok n w'∧(n=.value y∨(n=.skip∧y=undef))∧Go lo β A w β' A' w'∧v.Rel β' y
theorem Ab.gives {s:Sem Value} {v:AV} {A':W} (h:Gives P lo β A w s v A'):Ab P lo β A w (do pure (Next.value (<- s))) v A':=by
 obtain ⟨y,β',w',hr,hg,hv⟩:=h
 exact ⟨.value y,y,β',w',by simp [hr],.inl rfl,hg,hv⟩
theorem Ab.val (hW:aX lo β A w) {s:Sem Value} {v:AV} (h:∃ y,s.run P w=.ok y w∧v.Rel β y):Ab P lo β A w (do pure (Next.value (<- s))) v A:=.gives (Gives.pure hW h)
theorem Ab.unit {s:Sem Unit} {A':W} (h:∃ w',s.run P w=.ok () w'∧Go lo β A w β A' w'):Ab P lo β A w (do s; pure Next.skip) (.tu []) A':=by
 obtain ⟨w',hr,hg⟩:=h
 exact ⟨.skip,undef,β,w',by simp [hr],.inr ⟨rfl,rfl⟩,hg,[],rfl,rfl⟩
theorem zQb (hI:TOK P I) (hW:aX lo β A w) (he:tF β evf ρ) {o:Oper} {v:AV} {A':W} (h:aOp P lo I evf A o.op=some (v,A')):Ab P lo β A w (execOp ρ o) v A':=by
 unfold aOp at h
 split at h
 ·rename_i x ho
  replace h:=aC h; obtain ⟨a,ha,h⟩:=h
  simp only [aA,aB] at h
  obtain ⟨rfl,rfl⟩:=h
  exact ⟨_,_,β,w,by simp only [execOp,ho]; rfl,.inl rfl,.refl hW,he _ _ ha⟩
 ·rename_i x ho
  replace h:=aC h; obtain ⟨a,ha,h⟩:=h
  simp only [aA,aB] at h
  obtain ⟨rfl,rfl⟩:=h
  exact ⟨_,_,β,w,by simp only [execOp,ho]; rfl,.inl rfl,.refl hW,he _ _ ha⟩
 ·rename_i c x y ho
  replace h:=aC h; obtain ⟨cv,hc,h⟩:=h
  split at h
  ·replace h:=aC h; obtain ⟨a,ha,h⟩:=h
   simp only [aA,aB] at h
   obtain ⟨rfl,rfl⟩:=h
   have:=he _ _ hc
   simp only [AV.Rel] at this
   exact ⟨_,_,β,w,by simp only [execOp,ho,this,asBool]; rfl,.inl rfl,.refl hW,he _ _ ha⟩
  ·replace h:=aC h; obtain ⟨a,ha,h⟩:=h
   simp only [aA,aB] at h
   obtain ⟨rfl,rfl⟩:=h
   have:=he _ _ hc
   simp only [AV.Rel] at this
   exact ⟨_,_,β,w,by simp only [execOp,ho,this,asBool]; rfl,.inl rfl,.refl hW,he _ _ ha⟩
  ·cases h
 ·rename_i e ho
  replace h:=aC h; obtain ⟨ei,hei,h⟩:=h
  replace h:=aC h; obtain ⟨A1,hA,h⟩:=h
  simp only [aA,aB] at h
  obtain ⟨rfl,rfl⟩:=h
  simp only [execOp,ho]
  exact .gives (zJg hI hW hei hA)
 ·rename_i e x ho
  replace h:=aC h; obtain ⟨a,ha,h⟩:=h
  replace h:=aM h; obtain ⟨h1,h⟩:=h
  replace h:=aC h; obtain ⟨A1,hA,h⟩:=h
  simp only [aA,aB] at h
  obtain ⟨rfl,rfl⟩:=h
  simp only [execOp,ho]
  exact .gives (zPz hW (he _ _ ha) h1 hA)
 ·rename_i t ps ho
  replace h:=aC h; obtain ⟨a,ha,h⟩:=h
  simp only [aA,aB] at h
  obtain ⟨rfl,rfl⟩:=h
  simp only [execOp,ho]
  have:=zEp (w:=w) hI he ha
  rw [<- Array.toList_map,Array.toArray_toList] at this
  exact .val hW this
 ·rename_i t n ps ho
  simp only [execOp,ho]
  have:=Pk hI hW he h
  rw [<- Array.toList_map,Array.toArray_toList] at this
  exact .gives this
 ·rename_i t x ho
  replace h:=aC h; obtain ⟨a,ha,h⟩:=h
  replace h:=aC h; obtain ⟨b,hb,h⟩:=h
  simp only [aA,aB] at h
  obtain ⟨rfl,rfl⟩:=h
  simp only [execOp,ho]
  exact .val hW (Sg hI hW hb (he _ _ ha))
 ·rename_i t x y ho
  replace h:=aC h; obtain ⟨a,ha,h⟩:=h
  replace h:=aC h; obtain ⟨b,hb,h⟩:=h
  replace h:=aC h; obtain ⟨A1,hA,h⟩:=h
  simp only [aA,aB] at h
  obtain ⟨rfl,rfl⟩:=h
  simp only [execOp,ho]
  exact .unit (zEk hI hW hA (he _ _ ha) (he _ _ hb))
 ·rename_i x ho
  replace h:=aC h; obtain ⟨a,ha,h⟩:=h
  replace h:=aM h; obtain ⟨h1,h⟩:=h
  simp only [aA,aB] at h
  obtain ⟨rfl,rfl⟩:=h
  have hr:=he _ _ ha
  unfold zRl at h1
  split at h1
  ·have hr0:=hr
   obtain ⟨_,_,_,_,e⟩:=hr
   exact ⟨.value (ρ x),ρ x,β,w,by simp only [execOp,ho,e]; rfl,.inl rfl,.refl hW,hr0⟩
  ·have hr0:=hr
   obtain ⟨_,_,e,_⟩:=hr
   exact ⟨.value (ρ x),ρ x,β,w,by simp only [execOp,ho,e]; rfl,.inl rfl,.refl hW,hr0⟩
  ·have hr0:=hr
   obtain ⟨_,e,_⟩:=hr
   exact ⟨.value (ρ x),ρ x,β,w,by simp only [execOp,ho,e]; rfl,.inl rfl,.refl hW,hr0⟩
  ·cases h1
 ·rename_i op t x y yt ho
  replace h:=aC h; obtain ⟨a,ha,h⟩:=h
  replace h:=aC h; obtain ⟨b,hb,h⟩:=h
  replace h:=aC h; obtain ⟨r,hr,h⟩:=h
  simp only [aA,aB] at h
  obtain ⟨rfl,rfl⟩:=h
  simp only [execOp,ho]
  exact .val hW (zMn hI hr (he _ _ ha) (he _ _ hb))
 ·rename_i op t x ho
  replace h:=aC h; obtain ⟨a,ha,h⟩:=h
  replace h:=aC h; obtain ⟨r,hr,h⟩:=h
  simp only [aA,aB] at h
  obtain ⟨rfl,rfl⟩:=h
  simp only [execOp,ho]
  exact .val hW (zPx hr (he _ _ ha))
 ·rename_i s d x ho
  replace h:=aC h; obtain ⟨a,ha,h⟩:=h
  simp only [execOp,ho]
  exact .gives (zJd hI hW h (he _ _ ha))
 ·rename_i t x ho
  replace h:=aC h; obtain ⟨a,ha,h⟩:=h
  replace h:=aC h; obtain ⟨ti,hti,h⟩:=h
  replace h:=aM h; obtain ⟨h1,h⟩:=h
  simp only [aA,aB] at h
  obtain ⟨rfl,rfl⟩:=h
  simp only [execOp,ho]
  obtain ⟨d,hd,hdk⟩:=(hI _ _ hti).und
  refine .val hW ⟨.iface t (ρ x),?_,_,rfl,he _ _ ha⟩
  rw [<- hdk] at h1
  cases d <;> first | (simp [CK.of,zBt] at h1; done) | simp [Instr.makeInterface,run_underlying hd]
 ·rename_i f fs cs ho
  replace h:=aC h; obtain ⟨a,ha,h⟩:=h
  replace h:=aC h; obtain ⟨b,hb,h⟩:=h
  simp only [aA,aB] at h
  obtain ⟨rfl,rfl⟩:=h
  simp only [execOp,ho]
  exact .val hW ⟨.func f (fs.map ρ) (cs.map ρ),rfl,(fs.map ρ).toList,(cs.map ρ).toList,by rw [Array.toArray_toList,Array.toArray_toList],Vf he ha,Vf he hb⟩
 ·rename_i t ho
  replace h:=aC h; obtain ⟨A1,hA,h⟩:=h
  simp only [aA,aB] at h
  obtain ⟨rfl,rfl⟩:=h
  simp only [execOp,ho,Option.map_none]
  exact .gives (zBz hW hA)
 ·rename_i t l c ho
  replace h:=aC h; obtain ⟨a,ha,h⟩:=h
  replace h:=aC h; obtain ⟨b,hb,h⟩:=h
  simp only [execOp,ho]
  exact .gives (Sm hI hW h (he _ _ ha) (he _ _ hb))
 ·rename_i t x l hh m ho
  replace h:=aC h; obtain ⟨a,ha,h⟩:=h
  replace h:=aC h; obtain ⟨b,hb,h⟩:=h
  replace h:=aC h; obtain ⟨c,hc,h⟩:=h
  replace h:=aC h; obtain ⟨d,hd,h⟩:=h
  replace h:=aC h; obtain ⟨r,hr,h⟩:=h
  simp only [aA,aB] at h
  obtain ⟨rfl,rfl⟩:=h
  simp only [execOp,ho]
  exact .val hW (zEm hI hW hr (he _ _ ha) (Po he hb) (Po he hc) (Po he hd))
 ·rename_i t x f ho
  replace h:=aC h; obtain ⟨a,ha,h⟩:=h
  replace h:=aC h; obtain ⟨r,hr,h⟩:=h
  simp only [aA,aB] at h
  obtain ⟨rfl,rfl⟩:=h
  simp only [execOp,ho]
  exact .val hW (Sk hI hr (he _ _ ha))
 ·rename_i t x f ho
  replace h:=aC h; obtain ⟨a,ha,h⟩:=h
  replace h:=aC h; obtain ⟨r,hr,h⟩:=h
  simp only [aA,aB] at h
  obtain ⟨rfl,rfl⟩:=h
  simp only [execOp,ho]
  exact .val hW (zEn hI hr (he _ _ ha))
 ·rename_i t x i ho
  replace h:=aC h; obtain ⟨a,ha,h⟩:=h
  replace h:=aC h; obtain ⟨b,hb,h⟩:=h
  replace h:=aC h; obtain ⟨r,hr,h⟩:=h
  simp only [aA,aB] at h
  obtain ⟨rfl,rfl⟩:=h
  simp only [execOp,ho]
  exact .val hW (Sl hI hr (he _ _ ha) (he _ _ hb))
 ·rename_i t x i ho
  replace h:=aC h; obtain ⟨a,ha,h⟩:=h
  replace h:=aC h; obtain ⟨b,hb,h⟩:=h
  replace h:=aC h; obtain ⟨r,hr,h⟩:=h
  simp only [aA,aB] at h
  obtain ⟨rfl,rfl⟩:=h
  simp only [execOp,ho]
  exact .val hW (zEo hI hr (he _ _ ha) (he _ _ hb))
 ·rename_i t x i ok ho
  replace h:=aC h; obtain ⟨a,ha,h⟩:=h
  replace h:=aC h; obtain ⟨b,hb,h⟩:=h
  replace h:=aC h; obtain ⟨r,hr,h⟩:=h
  simp only [aA,aB] at h
  obtain ⟨rfl,rfl⟩:=h
  simp only [execOp,ho]
  exact .val hW (zCb hI hW hr (he _ _ ha) (he _ _ hb))
 ·rename_i t m k x ho
  replace h:=aC h; obtain ⟨a,ha,h⟩:=h
  replace h:=aC h; obtain ⟨b,hb,h⟩:=h
  replace h:=aC h; obtain ⟨c,hc,h⟩:=h
  replace h:=aC h; obtain ⟨A1,hA,h⟩:=h
  simp only [aA,aB] at h
  obtain ⟨rfl,rfl⟩:=h
  simp only [execOp,ho]
  exact .unit (Ke hI hW hA (he _ _ ha) (he _ _ hb) (he _ _ hc))
 ·rename_i t m k x ho
  replace h:=aC h; obtain ⟨a,ha,h⟩:=h
  replace h:=aC h; obtain ⟨b,hb,h⟩:=h
  replace h:=aC h; obtain ⟨c,hc,h⟩:=h
  replace h:=aC h; obtain ⟨A1,hA,h⟩:=h
  simp only [aA,aB] at h
  obtain ⟨rfl,rfl⟩:=h
  simp only [execOp,ho]
  exact .unit (Ke hI hW hA (he _ _ ha) (he _ _ hb) (he _ _ hc))
 ·rename_i t m k ho
  replace h:=aC h; obtain ⟨a,ha,h⟩:=h
  replace h:=aC h; obtain ⟨b,hb,h⟩:=h
  simp only [execOp,ho]
  exact .gives (Ve hI hW h (he _ _ ha) (he _ _ hb))
 ·rename_i t m s x ho
  replace h:=aC h; obtain ⟨a,ha,h⟩:=h
  replace h:=aC h; obtain ⟨b,hb,h⟩:=h
  replace h:=aC h; obtain ⟨c,hc,h⟩:=h
  replace h:=aC h; obtain ⟨A1,hA,h⟩:=h
  simp only [aA,aB] at h
  obtain ⟨rfl,rfl⟩:=h
  simp only [execOp,ho]
  exact .unit (Pn hW hA (he _ _ ha) (he _ _ hb) (he _ _ hc))
 ·rename_i t x ho
  replace h:=aC h; obtain ⟨a,ha,h⟩:=h
  simp only [execOp,ho]
  exact .gives (zEq hI hW h (he _ _ ha))
 ·rename_i x b ho
  replace h:=aC h; obtain ⟨a,ha,h⟩:=h
  simp only [execOp,ho]
  exact .gives (zJl hW h (he _ _ ha))
 ·rename_i x ho
  replace h:=aC h; obtain ⟨a,ha,h⟩:=h
  replace h:=aC h; obtain ⟨r,hr,h⟩:=h
  simp only [aA,aB] at h
  obtain ⟨rfl,rfl⟩:=h
  simp only [execOp,ho]
  exact .val hW (zEr hW hr (he _ _ ha))
 ·rename_i x xt asd ok ho
  replace h:=aC h; obtain ⟨a,ha,h⟩:=h
  replace h:=aC h; obtain ⟨r,hr,h⟩:=h
  simp only [aA,aB] at h
  obtain ⟨rfl,rfl⟩:=h
  simp only [execOp,ho]
  exact .val hW (zCc hI hr (he _ _ ha))
 ·rename_i x i ho
  replace h:=aC h; obtain ⟨a,ha,h⟩:=h
  split at h
  ·rename_i l
   replace h:=aC h; obtain ⟨r,hr,h⟩:=h
   simp only [aA,aB] at h
   obtain ⟨rfl,rfl⟩:=h
   simp only [execOp,ho]
   obtain ⟨vs,e,hvs⟩:=he _ _ ha
   rw [zBu] at hr
   obtain ⟨y,hy,hrel⟩:=hvs.get hr
   exact .val hW ⟨y,by simp [Instr.extract,e,hy],hrel⟩
  ·cases h
 ·rename_i b args ts ho
  replace h:=aC h; obtain ⟨xs,hxs,h⟩:=h
  obtain ⟨y,β',w',hr,hg,hv⟩:=Yk (ty:=o.type) (cs:=args.map fun | .const _=>true | _=>false) hI hW h (Vf he hxs)
  refine ⟨.value y,y,β',w',?_,.inl rfl,hg,hv⟩
  rw [Array.toArray_toList] at hr
  simp only [execOp,ho,resolve,Sem.run_bind,Sem.run_pure,Result.andThen_ok,invoke]
  exact hr
 ·cases h
end
end Go.Ce
namespace Go.Ce
structure fU (β:Bt) (n:Nat) (tm:T AV) (a:Act):Prop where
 size:a.tmps.size=n
 get:∀ t v,tm.get t=some v->t < n∧v.Rel β (a.tmps.getD t undef)
theorem fU.mono {β β':Bt} {n:Nat} {tm:T AV} {a:Act} (h:fU β n tm a) (hl:Le β β'):fU β' n tm a:=⟨h.size,fun t v hv=>⟨(h.get t v hv).1,(h.get t v hv).2.mono hl⟩⟩
theorem Zk {β:Bt} {tm:T AV} {a:Act} (h:∀ t v,tm.get t=some v->v.Rel β (a.tmps.getD t undef)):tF β (ev tm) a.eval:=fun x v hx=>by
 cases x with
 | tmp t=>exact h t v hx
 | const c=>exact (zBw hx β).1
 | func f=>simp only [ev,aA] at hx; subst hx; exact ⟨[],[],rfl,rfl,rfl⟩
 | global g=>simp [ev] at hx
theorem fU.ev {β:Bt} {n:Nat} {tm:T AV} {a:Act} (h:fU β n tm a):tF β (ev tm) a.eval:=Zk fun t v hv=>(h.get t v hv).2
theorem tT {β:Bt} {n:Nat} {tm tm':T AV} {a:Act} {d:Option Tmp} {v:AV} {y:Value} (h:iB n tm d v=some tm') (hf:fU β n tm a) (hv:v.Rel β y):fU β n tm' (a.put d y):=by
 cases d with
 | none =>
  simp only [iB,aA] at h
  subst h
  exact hf
 | some d =>
  simp only [iB] at h
  obtain ⟨hc,h⟩:=aM h
  simp only [aA] at h
  subst h
  rw [aF,Nat.blt_eq,Nat.blt_eq] at hc
  refine ⟨by simp [Act.put,hf.size],fun t u hu=>?_⟩
  by_cases ht:t=d
  ·subst ht
   rw [T.dJ _ hc.2] at hu
   simp only [aA] at hu
   subst hu
   refine ⟨hc.1,?_⟩
   have:t < a.tmps.size:=by rw [hf.size]; exact hc.1
   simpa [Act.put,Array.getD_eq_getD_getElem?,this] using hv
  ·rw [T.aT _ ht] at hu
   obtain ⟨h1,h2⟩:=hf.get t u hu
   refine ⟨h1,?_⟩
   have:(a.put (some d) y).tmps.getD t undef=a.tmps.getD t undef:=by
    simp [Act.put,Array.getD_eq_getD_getElem?,Array.getElem?_setIfInBounds,Ne.symm ht]
   rw [this]; exact h2
theorem put_defers (a:Act) (d:Option Tmp) (y:Value):(a.put d y).defers=a.defers:=by cases d <;> rfl
def zO (β:Bt):Out->Ending->Prop
 | .ret v,e=>∃ y,e=.returned y∧v.Rel β y
 | .pan t v,e=>∃ y,e=.panicked [{ v:=.iface t y,recovered:=false }]∧v.Rel β y
def fJ (β:Bt):Ex->Exit->Prop
 | .normal,x=>x=.normal
 | .exit i,x=>x=.exit i
 | .goto l,x=>x=.goto l
 | .ret,x=>x=.ret
 | .pan t v,x=>∃ y,x=.panic [{ v:=.iface t y,recovered:=false }]∧v.Rel β y
def cZ (P:Program) (lo:Nat) (f:FuncId) (args:List AV) (A:W) (out:Out) (A':W):Prop :=
 ∀ (β:Bt) (w:World) (xs:List Value),aX lo β A w->AV.aN β args xs ->
  ((callFunc f xs.toArray).run P w=.ok (.enter f xs.toArray) w∧Calls P f xs.toArray w fun e w'=>∃ β',Go lo β A w β' A' w'∧zO β' out e) ∨
  (∃ v y β' w',out=.ret v∧(callFunc f xs.toArray).run P w=.ok (.value y) w'∧Go lo β A w β' A' w'∧v.Rel β' y)
def Dt (P:Program) (lo:Nat) (f:FuncId) (args:List AV) (A:W) (out:Out) (A':W):Prop :=
 ∀ (β:Bt) (w:World) (xs:List Value),aX lo β A w->AV.aN β args xs ->
  (callFunc f xs.toArray).run P w=.ok (.enter f xs.toArray) w∧Calls P f xs.toArray w fun e w'=>∃ β',Go lo β A w β' A' w'∧zO β' out e
theorem Dt.call {P:Program} {lo:Nat} {f:FuncId} {args:List AV} {A:W} {out:Out} {A':W} (h:Dt P lo f args A out A'):cZ P lo f args A out A':=fun β w xs hW hr=>.inl (h β w xs hW hr)
def Kg (t:TypeId) (z:AV):Out->Prop
 | .ret v=>v=.tu []
 | .pan t' v=>t'=t∧shp z v=true
structure fA (E:Env):Prop where
 I:TOK E.P E.I
 F:∀ f fn,E.F.get f=some fn->E.P.funcs[f]?=some fn∧(fn.name == "runtime.NumGoroutine")=false
 giv:∀ f g,E.giv f=some g->∀ lo A args v A',g lo A args=some (v,A')->cZ E.P lo f args A (.ret v) A'
 tri:∀ f t z,E.tri f=some (t,z)->∀ lo g fs cs A out A',Dt E.P lo g (fs++cs) A out A'->Kg t z out->cZ E.P lo f [.fn (.func g) fs cs] A (.ret (match out with | .ret _=>z | .pan _ v=>v)) A'
 mixed:E.P.follows .mixedOrders=true
def pI (E:Env) (ih:Runs):Prop:=∀ n lo sc c tm A ex tm' A',ih n lo sc c tm A=some (ex,tm',A')->∀ (β:Bt) (w:World) (a:Act),aX lo β A w->fU β n tm a ->
 match sc with
 | .pl=>c.wp E.P (fun x a' w'=>∃ β',Go lo β A w β' A' w'∧fU β' n tm' a'∧fJ β' ex x∧a'.defers=a.defers) a w
 | .sc body=>∀ (b:Frame) (k:List Item) (cs:List Frame),∃ x a' w',(∃ β',Go lo β A w β' A' w'∧fU β' n tm' a'∧fJ β' ex x∧a'.defers=a.defers) ∧
   Arrives E.P (lone (b.at a (.code c :: .inScope body :: k)) cs w) b k cs x a' w'
 | .lp body=>∀ (b:Frame) (k:List Item) (cs:List Frame),∃ x a' w',(∃ β',Go lo β A w β' A' w'∧fU β' n tm' a'∧fJ β' ex x∧a'.defers=a.defers) ∧
   Arrives E.P (lone (b.at a (.code c :: .inLoop body :: k)) cs w) b k cs x a' w'
section
variable {E:Env} {ih:Runs} {lo n:Nat} {β:Bt} {A:W} {w:World} {a:Act}
theorem Gj:∀ (l:List AV) (i:Nat) (tm:T AV) (t:Nat),i+l.length < big->(wR i l tm).get t=if i <= t∧t < i+l.length then l[t - i]? else tm.get t
 | [],i,tm,t,_=>by simp [wR]; omega
 | a :: l,i,tm,t,h=>by
  simp only [wR]
  rw [Gj l (i+1) _ t (by simp at h; omega)]
  simp only [List.length_cons]
  by_cases h1:i+1 <= t∧t < i+1+l.length
  ·rw [if_pos h1,if_pos (by omega)]
   have:t - i=(t - (i+1))+1:=by omega
   rw [this,List.getElem?_cons_succ]
  ·rw [if_neg h1]
   by_cases h2:t=i
   ·subst h2
    rw [T.dJ _ (by omega),if_pos (by omega)]
    simp
   ·rw [T.aT _ h2,if_neg (by omega)]
def rdV (a:Act):ResultVar->Sem Value
 | .tmp t=>pure (a.tmps.getD t undef)
 | .cell x t=>do loadVar t (<- asAddr (a.tmps.getD x undef))
theorem Sy (hE:fA E) (hW:aX lo β A w) {tm:T AV} (hf:fU β n tm a):∀ {rs:List ResultVar} {l:List AV},kJ E tm A rs=some l ->
  ∃ vs:List Value,AV.aN β l vs∧∀ acc:Array Value,(rs.foldlM (fun (acc:Array Value) r=>do pure (acc.push (<- rdV a r))) acc:Sem (Array Value)).run E.P w=.ok (acc++vs.toArray) w
 | [],l,h=>by
  simp only [kJ,aA] at h
  subst h
  exact ⟨[],rfl,fun acc=>by simp⟩
 | r :: rs,l,h=>by
  simp only [kJ] at h
  split at h
  ·rename_i v l' h1 h2
   simp only [aA] at h
   subst h
   obtain ⟨vs,hr,hrun⟩:=Sy hE hW hf h2
   have:∃ y,(rdV a r).run E.P w=.ok y w∧v.Rel β y:=by
    cases r with
    | tmp t=>exact ⟨_,rfl,(hf.get t v h1).2⟩
    | cell x t =>
     simp only [Ou] at h1
     obtain ⟨p,hp,h1⟩:=aC h1
     have hpr:=(hf.get x p hp).2
     obtain ⟨y,hy,hyr⟩:=Sg hE.I hW h1 hpr
     refine ⟨y,?_,hyr⟩
     unfold Rw at h1
     split at h1
     ·obtain ⟨b,o,m,_,e⟩:=hpr
      rw [e] at hy
      simp only [rdV,e]
      simpa [Instr.loadAt,Instr.sureAddr,asAddr] using hy
     ·cases h1
   obtain ⟨y,hy,hyr⟩:=this
   refine ⟨y :: vs,⟨y,vs,rfl,hyr,hr⟩,fun acc=>?_⟩
   simp only [List.foldlM_cons,Sem.run_bind,hy,Result.andThen_ok,Sem.run_pure]
   rw [hrun]
   simp
  ·cases h
theorem zJn (fn:Func) (a:Act):results fn a.tmps=(do let vs <- fn.results.mapM (rdV a); pure (if h:vs.size=1 then vs[0] else .tuple vs)):=by
 unfold results
 congr 1
theorem Kh (hE:fA E) (hW:aX lo β A w) {tm:T AV} (hf:fU β n tm a) {fn:Func} {l:List AV} (h:kJ E tm A fn.results.toList=some l):∃ y,(results fn a.tmps).run E.P w=.ok y w∧(Fp l).Rel β y:=by
 obtain ⟨vs,hr,hrun⟩:=Sy hE hW hf h
 have hm:(fn.results.mapM (rdV a):Sem (Array Value)).run E.P w=.ok vs.toArray w:=by
  rw [Array.mapM_eq_foldlM,<- Array.foldlM_toList]
  have:=hrun #[]
  simp only [bind_pure_comp,Array.empty_append] at this ⊢
  exact this
 refine ⟨if h:vs.toArray.size=1 then vs.toArray[0] else .tuple vs.toArray,?_,?_⟩
 ·rw [zJn]
  simp only [Sem.run_bind,hm,Result.andThen_ok,Sem.run_pure]
 ·match l,vs,hr with
  | [],_,hr=>simp only [AV.aN] at hr; subst hr; exact ⟨[],rfl,rfl⟩
  | [x],vs,hr =>
   obtain ⟨y,ys,rfl,h1,h2⟩:=hr
   simp only [AV.aN] at h2
   subst h2
   simpa [Fp] using h1
  | x :: x2 :: l,vs,hr =>
   obtain ⟨y,ys,rfl,h1,y2,ys2,rfl,h2,h3⟩:=hr
   exact ⟨y :: y2 :: ys2,by simp,y,_,rfl,h1,y2,_,rfl,h2,h3⟩
theorem Gl (hE:fA E) (hih:pI E ih) {f:FuncId} {args:List AV} {out:Out} {A':W} (h:zH E ih lo f args A=some (out,A')):Dt E.P lo f args A out A':=by
 intro β w xs hW hr
 unfold zH at h
 replace h:=aC h; obtain ⟨fn,hfn,h⟩:=h
 replace h:=aC h; obtain ⟨c,hc,h⟩:=h
 replace h:=aM h; obtain ⟨hn,h⟩:=h
 replace h:=aC h; obtain ⟨r,hrun,h⟩:=h
 obtain ⟨ex,tm',A1⟩:=r
 obtain ⟨hF,hname⟩:=hE.F f fn hfn
 rw [aF,Nat.ble_eq,Nat.blt_eq,len_eq] at hn
 have hxl:=hr.length
 have hfr:fU β fn.ntmps (wR 0 args .nil) { tmps:=xs.toArray++Array.replicate (fn.ntmps - xs.toArray.size) undef,defers:=[] }:=by
  refine ⟨by simp; omega,fun t v hv=>?_⟩
  rw [Gj _ _ _ _ (by omega)] at hv
  split at hv
  ·rename_i ht
   obtain ⟨y,hy,hyr⟩:=hr.get hv
   refine ⟨by omega,?_⟩
   have hlt:=(aS.1 hy).1
   rw [Nat.sub_zero] at hy hlt
   have:(xs.toArray++Array.replicate (fn.ntmps - xs.toArray.size) undef).getD t undef=y:=by
    rw [Array.getD_eq_getD_getElem?,Array.getElem?_append_left (by simpa using hlt)]
    simp [hy]
   rw [this]; exact hyr
  ·simp [T.get] at hv
 have hwp:=hih _ _ .pl _ _ _ _ _ _ hrun β w _ hW hfr
 refine ⟨?_,calls_of_wp hF hc (wp_mono hwp ?_)⟩
 ·have h1:fn.body.isNone=false:=by rw [hc]; rfl
  simp only [callFunc,Sem.run_bind,run_program,Result.andThen_ok,hF,hname,h1,Bool.false_eq_true,if_false,Sem.run_pure]
 ·rintro x a' w' ⟨β',hgo,hf',hx,hd⟩
  have fin:∀ l,kJ E tm' A1 fn.results.toList=some l->out=.ret (Fp l)->A1=A'->(x=.normal∨x=.ret)->bodyPost E.P fn (fun e w'=>∃ β',Go lo β A w β' A' w'∧zO β' out e) x a' w':=fun l hl ho hA hx=>by
   subst hA ho
   obtain ⟨y,hy,hyr⟩:=Kh hE hgo.rel hf' hl
   rcases hx with rfl | rfl <;> exact ⟨hd,y,hy,β',hgo,y,rfl,hyr⟩
  cases ex with
  | normal =>
   simp only at h
   replace h:=aC h; obtain ⟨l,hl,h⟩:=h
   simp only [aA,aB] at h
   exact fin l hl h.1.symm h.2 (.inl hx)
  | ret =>
   simp only at h
   replace h:=aC h; obtain ⟨l,hl,h⟩:=h
   simp only [aA,aB] at h
   exact fin l hl h.1.symm h.2 (.inr hx)
  | pan t v =>
   simp only [aA,aB] at h
   obtain ⟨rfl,rfl⟩:=h
   obtain ⟨y,rfl,hyr⟩:=hx
   exact ⟨hd,β',hgo,y,rfl,hyr⟩
  | exit i=>simp at h
  | goto l=>simp at h
theorem Sz (hE:fA E) (hih:pI E ih) {f:FuncId} {args:List AV} {out:Out} {A':W} (h:Dl E ih lo f args A=some (out,A')):cZ E.P lo f args A out A':=by
 unfold Dl at h
 split at h
 ·rename_i g hg
  replace h:=aC h; obtain ⟨r,hr,h⟩:=h
  simp only [aA,aB] at h
  obtain ⟨rfl,rfl⟩:=h
  exact hE.giv f g hg lo A args _ _ hr
 ·split at h
  ·rename_i t z ht
   split at h
   ·rename_i g fs cs
    replace h:=aC h; obtain ⟨r,hr,h⟩:=h
    have hb:=Gl hE hih hr
    split at h
    ·rename_i A1
     simp only [aA,aB] at h
     obtain ⟨rfl,rfl⟩:=h
     exact hE.tri f t z ht lo g fs cs A _ _ hb rfl
    ·rename_i t' v A1
     replace h:=aM h; obtain ⟨hc,h⟩:=h
     simp only [aA,aB] at h
     obtain ⟨rfl,rfl⟩:=h
     rw [aF] at hc
     exact hE.tri f t z ht lo g fs cs A _ _ hb ⟨(aG hc.1).symm,hc.2⟩
    ·cases h
   ·cases h
  ·exact (Gl hE hih h).call
theorem Db (hE:fA E) {o:Oper} {x:Operand} {args:Array Operand} {ats:Array TypeId} {f:FuncId} {fs cs xs:List AV} {tm:T AV} {out:Out} {A':W} {next:Act->World->Prop} {Q:Exit->Act->World->Prop}
  (ho:o.op=.call { callee:=.value x,args:=args,argTypes:=ats }) (hW:aX lo β A w) (he:tF β (ev tm) a.eval) (hx:ev tm x=some (.fn (.func f) fs cs)) (hxs:avs (ev tm) args.toList=some xs)
  (hc:cZ E.P lo f (fs++xs++cs) A out A')
  (hn:∀ v y β' w',out=.ret v->Go lo β A w β' A' w'->v.Rel β' y->next (a.put o.dst y) w')
  (hq:∀ t v y β' w',out=.pan t v->Go lo β A w β' A' w'->v.Rel β' y->Q (.panic [{ v:=.iface t y,recovered:=false }]) a w'):o.wp E.P a w next Q:=by
 obtain ⟨first,caps,e,h1,h2⟩:=he x _ hx
 have h3:=Pj he hxs
 have hargs:AV.aN β (fs++xs++cs) (first++args.toList.map a.eval++caps):=(h1.append h3).append h2
 have hres:(execOp a.eval o)=callFunc f (first++args.toList.map a.eval++caps).toArray:=by
  simp only [execOp,ho,resolve,e,Deferred.ofValue]
  show (invoke (.fn (.func f) caps.toArray) (first.toArray++args.map a.eval):Sem Next)=_
  simp only [invoke]
  congr 1
  apply Array.ext'
  simp
 unfold Oper.wp
 rw [hres]
 rcases hc β w _ hW hargs with ⟨hcf,zVg⟩ | ⟨v,y,β',w',rfl,hcf,hgo,hv⟩
 ·rw [hcf]
  refine zVg.mono ?_
  rintro e w' ⟨β',hgo,ho⟩
  cases out with
  | ret v =>
   obtain ⟨y,rfl,hy⟩:=ho
   exact hn v y β' w' rfl hgo hy
  | pan t v =>
   obtain ⟨y,rfl,hy⟩:=ho
   exact hq t v y β' w' rfl hgo hy
 ·rw [hcf]
  exact hn v y β' w' rfl hgo hv
theorem Vg (hE:fA E) {o:Oper} {tm:T AV} {v:AV} {A':W} {next:Act->World->Prop} {Q:Exit->Act->World->Prop} (hW:aX lo β A w) (he:tF β (ev tm) a.eval) (h:aOp E.P lo E.I (ev tm) A o.op=some (v,A'))
  (hn:∀ y β' w',Go lo β A w β' A' w'->v.Rel β' y->next (a.put o.dst y) w'):o.wp E.P a w next Q:=by
 obtain ⟨n,y,β',w',hr,hv,hgo,hrel⟩:=zQb hE.I hW he h
 unfold Oper.wp
 rw [hr]
 rcases hv with rfl | ⟨rfl,rfl⟩
 ·exact hn y β' w' hgo hrel
 ·exact hn undef β' w' hgo hrel
theorem Pp (hE:fA E) (hih:pI E ih) {o:Oper} {tm:T AV} {v:AV} {A':W} {next:Act->World->Prop} {Q:Exit->Act->World->Prop} (hW:aX lo β A w) (he:tF β (ev tm) a.eval) (h:nU E ih lo o tm A=some (v,A'))
  (hn:∀ y β' w',Go lo β A w β' A' w'->v.Rel β' y->next (a.put o.dst y) w'):o.wp E.P a w next Q:=by
 unfold nU at h
 split at h
 ·rename_i x args ats ho
  replace h:=aC h; obtain ⟨g,hg,h⟩:=h
  split at h
  ·rename_i f fs cs
   replace h:=aC h; obtain ⟨xs,hxs,h⟩:=h
   replace h:=aC h; obtain ⟨r,hr,h⟩:=h
   split at h
   ·simp only [aA,aB] at h
    obtain ⟨rfl,rfl⟩:=h
    exact Db hE ho hW he hg hxs (Sz hE hih hr) (fun v' y β' w' e hgo hv=>by cases e; exact hn y β' w' hgo hv) (fun t v' y β' w' e=>by cases e)
   ·cases h
  ·cases h
 ·cases h
 ·exact Vg hE hW he h hn
theorem zQc (hE:fA E) (hih:pI E ih) {o:Oper} {tm tm':T AV} {ex:Ex} {A':W} {next:Act->World->Prop} {Q:Exit->Act->World->Prop} (hW:aX lo β A w) (hf:fU β n tm a) (h:Sb E ih n lo o tm A=some (ex,tm',A'))
  (hn:∀ y β' w',ex=.normal->Go lo β A w β' A' w'->fU β' n tm' (a.put o.dst y)->next (a.put o.dst y) w')
  (hq:∀ t v y β' w',ex=.pan t v->Go lo β A w β' A' w'->fU β' n tm' a->v.Rel β' y->Q (.panic [{ v:=.iface t y,recovered:=false }]) a w'):o.wp E.P a w next Q∧(ex=.normal∨∃ t v,ex=.pan t v):=by
 unfold Sb at h
 split at h
 ·rename_i x args ats ho
  replace h:=aC h; obtain ⟨g,hg,h⟩:=h
  split at h
  ·rename_i f fs cs
   replace h:=aC h; obtain ⟨xs,hxs,h⟩:=h
   replace h:=aC h; obtain ⟨r,hr,h⟩:=h
   have hc:=Sz hE hih hr
   split at h
   ·replace h:=aC h; obtain ⟨tm1,htm,h⟩:=h
    simp only [aA,aB] at h
    obtain ⟨rfl,rfl,rfl⟩:=h
    refine ⟨Db hE ho hW hf.ev hg hxs hc (fun v' y β' w' e hgo hv=>?_) (fun t v' y β' w' e=>by cases e),.inl rfl⟩
    cases e
    exact hn y β' w' rfl hgo (tT htm (hf.mono hgo.ext) hv)
   ·simp only [aA,aB] at h
    obtain ⟨rfl,rfl,rfl⟩:=h
    refine ⟨Db hE ho hW hf.ev hg hxs hc (fun v' y β' w' e=>by cases e) (fun t v' y β' w' e hgo hv=>?_),.inr ⟨_,_,rfl⟩⟩
    cases e
    exact hq _ _ y β' w' rfl hgo (hf.mono hgo.ext) hv
  ·cases h
 ·rename_i x ho
  replace h:=aC h; obtain ⟨g,hg,h⟩:=h
  split at h
  ·rename_i t v
   simp only [aA,aB] at h
   obtain ⟨rfl,rfl,rfl⟩:=h
   obtain ⟨y,e,hy⟩:=hf.ev x _ hg
   refine ⟨?_,.inr ⟨_,_,rfl⟩⟩
   unfold Oper.wp
   have:(execOp a.eval o).run E.P w=.halt (.panic (.iface t y)) w:=by
    simp [execOp,ho,e,Instr.panic,goPanic,Sem.run]
   rw [this]
   exact hq t v y β w rfl (.refl hW) hf hy
  ·cases h
 ·replace h:=aC h; obtain ⟨r,hr,h⟩:=h
  replace h:=aC h; obtain ⟨tm1,htm,h⟩:=h
  simp only [aA,aB] at h
  obtain ⟨rfl,rfl,rfl⟩:=h
  exact ⟨Vg hE hW hf.ev hr fun y β' w' hgo hv=>hn y β' w' rfl hgo (tT htm (hf.mono hgo.ext) hv),.inl rfl⟩
end
end Go.Ce
namespace Go.Ce
section
variable {E:Env} {ih:Runs} {lo n:Nat} {β:Bt} {A:W} {w:World} {a:Act}
def Aft (lo n:Nat) (β:Bt) (A:W) (w:World) (a:Act) (ex:Ex) (tm':T AV) (A':W) (x:Exit) (a':Act) (w':World):Prop :=
 ∃ β',Go lo β A w β' A' w'∧fU β' n tm' a'∧fJ β' ex x∧a'.defers=a.defers
theorem zCd {ops:Array Oper} {tm:T AV} (hf:fU β n tm a) {j s:Nat} {v:AV} (hs:bG ops.toList j=some s) (hv:tm.get s=some v) :
  (∀ b,v=.bo b->yielded ops a.tmps j=some b)∧(v=.tu []->yielded ops a.tmps j=none):=by
 have h1:(ops[j]?).bind (·.dst)=some s:=by
  unfold bG at hs
  rwa [Array.getElem?_toList] at hs
 obtain ⟨hlt,hr⟩:=hf.get s v hv
 have hlt':s < a.tmps.size:=by rw [hf.size]; exact hlt
 have hg:a.tmps[s]?=some (a.tmps.getD s undef):=by
  rw [Array.getD_eq_getD_getElem?,Array.getElem?_eq_getElem hlt']; rfl
 constructor
 ·rintro b rfl
  simp only [AV.Rel] at hr
  unfold yielded
  rw [h1]
  simp only [Option.bind_some]
  rw [hg,hr]
 ·rintro rfl
  obtain ⟨x,e,hx⟩:=hr
  simp only [AV.aN] at hx
  subst hx
  unfold yielded
  rw [h1]
  simp only [Option.bind_some]
  rw [hg,e]
theorem Ki (hE:fA E) (hih:pI E ih) {ops:Array Oper}:∀ {rs:List Oper} {is:List Nat} {tm tm':T AV} {A A':W} {ex:Ex} {β:Bt} {w:World} {a:Act} {Q:Exit->Act->World->Prop},
  sF E ih n lo ops.toList rs tm A=some (ex,tm',A')->is.map (fun i=>ops[i]?)=rs.map some->aX lo β A w->fU β n tm a->(∀ x a' w',Aft lo n β A w a ex tm' A' x a' w'->Q x a' w')->wpOps E.P ops Q is a w
 | [],is,tm,tm',A,A',ex,β,w,a,Q,h,hi,hW,hf,hQ=>by
  simp only [List.map_nil,List.map_eq_nil_iff] at hi
  subst hi
  simp only [sF,aA,aB] at h
  obtain ⟨rfl,rfl,rfl⟩:=h
  exact hQ _ _ _ ⟨β,.refl hW,hf,rfl,rfl⟩
 | o :: rs,is,tm,tm',A,A',ex,β,w,a,Q,h,hi,hW,hf,hQ=>by
  match is,hi with
  | i :: is,hi =>
   simp only [List.map_cons,aK] at hi
   obtain ⟨hi0,hi⟩:=hi
   simp only [wpOps,hi0]
   have go:∀ {h0:Option (Ex × T AV × W)},(ob (Sb E ih n lo o tm A) fun x=>match x with | (.normal,tm,A)=>sF E ih n lo ops.toList rs tm A | x=>some x)=some (ex,tm',A')->o.wp E.P a w (wpOps E.P ops Q is) Q:=fun {_} h=>by
    replace h:=aC h; obtain ⟨r,hr,h⟩:=h
    obtain ⟨ex1,tm1,A1⟩:=r
    refine (zQc hE hih hW hf hr (fun y β' w' he hgo hf'=>?_) (fun t v y β' w' he hgo hf' hv=>?_)).1
    ·subst he
     refine Ki hE hih h hi hgo.rel hf' fun x a' w'' ⟨β'',jI,hf2,hx,hd⟩=>hQ _ _ _ ⟨β'',hgo.trans jI,hf2,hx,by rw [hd,put_defers]⟩
    ·subst he
     simp only [aA,aB] at h
     obtain ⟨rfl,rfl,rfl⟩:=h
     exact hQ _ _ _ ⟨β',hgo,hf',⟨y,rfl,hv⟩,rfl⟩
   have skip:∀ {tm1:T AV},iB n tm o.dst (.tu [])=some tm1->sF E ih n lo ops.toList rs tm1 A=some (ex,tm',A')->wpOps E.P ops Q is (a.put o.dst undef) w:=fun {tm1} hp h =>
    Ki hE hih h hi hW (tT hp hf ⟨[],rfl,rfl⟩) fun x a' w'' ⟨β'',jI,hf2,hx,hd⟩=>hQ _ _ _ ⟨β'',jI,hf2,hx,by rw [hd,put_defers]⟩
   simp only [sF] at h
   split at h
   ·rename_i hg
    have hw:Region.wanted o (yielded ops a.tmps)=true:=by simp [Region.wanted,hg]
    rw [if_pos hw]
    exact .inl (go (h0:=none) h)
   ·rename_i j want hg
    replace h:=aC h; obtain ⟨s,hs,h⟩:=h
    replace h:=aC h; obtain ⟨v,hv,h⟩:=h
    obtain ⟨y1,y2⟩:=zCd hf hs hv
    split at h
    ·rename_i b
     have hy:=y1 b rfl
     unfold cnd at h
     split at h
     ·rename_i hb
      have hw:Region.wanted o (yielded ops a.tmps)=true:=by simp [Region.wanted,hg,hy,beq_iff_eq.1 hb]
      rw [if_pos hw]
      exact .inl (go (h0:=none) h)
     ·rename_i hb
      have hw:¬ Region.wanted o (yielded ops a.tmps)=true:=by
       simp only [Region.wanted,hg,hy]
       intro h3
       have:b=want:=by simpa using h3
       subst this
       simp at hb
      rw [if_neg hw]
      replace h:=aC h; obtain ⟨tm1,hp,h⟩:=h
      exact skip hp h
    ·have hy:=y2 rfl
     have hw:¬ Region.wanted o (yielded ops a.tmps)=true:=by simp [Region.wanted,hg,hy]
     rw [if_neg hw]
     replace h:=aC h; obtain ⟨tm1,hp,h⟩:=h
     exact skip hp h
    ·cases h
def zMr (E:Env) (ih:Runs):Prop:=∀ {n lo:Nat} {id:Nat} {ops:Array Oper} {tm tm':T AV} {A A':W} {ex:Ex} {β:Bt} {w:World} {a:Act},Oz E ih n lo ops.toList tm A=some (ex,tm',A')->aX lo β A w->fU β n tm a ->
 (Code.region id ops true).wp E.P (Aft lo n β A w a ex tm' A') a w
theorem zMs {α:Type} (ops:Array α):(List.range ops.size).map (fun i=>ops[i]?)=ops.toList.map some:=by
 apply List.ext_getElem?
 intro i
 rw [List.getElem?_map,List.getElem?_map]
 by_cases h:i < ops.size
 ·rw [List.getElem?_range h]
  simp [h]
 ·rw [List.getElem?_eq_none (by simp; omega),List.getElem?_eq_none (by simp; omega)]
  rfl
theorem Kj {β':Bt} {A1 A':W} {w1:World} {a1:Act} {ex:Ex} {tm':T AV} {x:Exit} {a':Act} {w':World} (hgo:Go lo β A w β' A1 w1) (hd:a1.defers=a.defers) (h:Aft lo n β' A1 w1 a1 ex tm' A' x a' w'):Aft lo n β A w a ex tm' A' x a' w':=by
 obtain ⟨β'',h1,h2,h3,h4⟩:=h
 exact ⟨β'',hgo.trans h1,h2,h3,h4.trans hd⟩
theorem vG {β':Bt} {ex:Ex} {x:Exit} (h:fJ β' ex x):(ex=.normal <-> x=.normal)∧(∀ i,ex=.exit i <-> x=.exit i)∧(∀ l,ex=.goto l <-> x=.goto l):=by
 cases ex
 case pan t v=>obtain ⟨y,rfl,_⟩:=h; simp
 all_goals (simp only [fJ] at h; subst h; simp)
theorem step_ok (hE:fA E) (hih:pI E ih) (hD:zMr E ih):pI E (Dp E ih):=by
 intro n lo sc c tm A ex tm' A' h β w a hW hf
 cases sc with
 | sc body =>
  simp only [Dp] at h
  intro b k cs
  replace h:=aC h; obtain ⟨r,hr,h⟩:=h
  obtain ⟨ex1,tm1,A1⟩:=r
  obtain ⟨x,a1,w1,⟨β1,hgo,hf1,hx,hd⟩,harr⟩:=hih _ _ .pl _ _ _ _ _ _ hr β w a hW hf b (.inScope body :: k) cs
  have other:∀ (y:Exit),x=y->(∀ l,y=.goto l->findLabel body l=none)->Arrives E.P (lone (b.at a (.code c :: .inScope body :: k)) cs w) b k cs y a1 w1:=fun y hy hl=>by
   subst hy
   cases x with
   | normal=>exact Steps.trans harr (.one step_inScope)
   | exit id=>exact fun k' hk=>harr k' (by simp [exitTo,hk])
   | goto l=>exact fun k' hk=>harr k' (by simp [gotoIn,hl l rfl,hk])
   | ret=>exact harr
   | panic ch=>exact harr
   | outgrown=>exact harr
  split at h
  ·rename_i l tm2 A2 heq
   simp only [aB] at heq
   obtain ⟨rfl,rfl,rfl⟩:=heq
   simp only [fJ] at hx
   subst hx
   split at h
   ·rename_i rest hl
    obtain ⟨x2,a2,w2,haft,Ta⟩:=hih _ _ (.sc body) _ _ _ _ _ _ h β1 w1 a1 hgo.rel hf1 b k cs
    refine ⟨x2,a2,w2,Kj hgo hd haft,.of_steps (harr _ (by simp [gotoIn,hl])) Ta⟩
   ·rename_i hl
    simp only [aA,aB] at h
    obtain ⟨rfl,rfl,rfl⟩:=h
    exact ⟨.goto l,a1,w1,⟨β1,hgo,hf1,rfl,hd⟩,other _ rfl fun l' e=>by cases e; exact hl⟩
  ·rename_i hng
   simp only [aA,aB] at h
   obtain ⟨rfl,rfl,rfl⟩:=h
   refine ⟨x,a1,w1,⟨β1,hgo,hf1,hx,hd⟩,other _ rfl fun l e=>?_⟩
   have:=((vG hx).2.2 l).2 e
   subst this
   exact absurd rfl (hng l tm1 A1)
 | lp body =>
  simp only [Dp] at h
  intro b k cs
  replace h:=aC h; obtain ⟨r,hr,h⟩:=h
  obtain ⟨ex1,tm1,A1⟩:=r
  obtain ⟨x,a1,w1,⟨β1,hgo,hf1,hx,hd⟩,harr⟩:=hih _ _ .pl _ _ _ _ _ _ hr β w a hW hf b (.inLoop body :: k) cs
  split at h
  ·rename_i tm2 A2 heq
   simp only [aB] at heq
   obtain ⟨rfl,rfl,rfl⟩:=heq
   simp only [fJ] at hx
   subst hx
   obtain ⟨x2,a2,w2,haft,Ta⟩:=hih _ _ (.lp body) _ _ _ _ _ _ h β1 w1 a1 hgo.rel hf1 b k cs
   exact ⟨x2,a2,w2,Kj hgo hd haft,.of_steps (Steps.trans harr (.one step_inLoop)) Ta⟩
  ·rename_i hnn
   simp only [aA,aB] at h
   obtain ⟨rfl,rfl,rfl⟩:=h
   refine ⟨x,a1,w1,⟨β1,hgo,hf1,hx,hd⟩,?_⟩
   cases x with
   | normal =>
    have:=(vG hx).1.2 rfl
    subst this
    exact absurd rfl (hnn tm1 A1)
   | exit id=>exact .pass (x:=.inLoop body) rfl (fun _ _=>.inl (by simp)) harr
   | goto l=>exact .pass (x:=.inLoop body) rfl (fun _ _=>.inl (by simp)) harr
   | ret=>exact .pass (x:=.inLoop body) rfl (fun _ _=>.inl (by simp)) harr
   | panic ch=>exact .pass (x:=.inLoop body) rfl (fun _ _=>.inl (by simp)) harr
   | outgrown=>exact .pass (x:=.inLoop body) rfl (fun _ _=>.inl (by simp)) harr
 | pl =>
  show c.wp E.P (Aft lo n β A w a ex tm' A') a w
  simp only [Dp] at h
  split at h
  ·simp only [aA,aB] at h
   obtain ⟨rfl,rfl,rfl⟩:=h
   exact wp_skip ⟨β,.refl hW,hf,rfl,rfl⟩
  ·simp only [aA,aB] at h
   obtain ⟨rfl,rfl,rfl⟩:=h
   exact wp_label ⟨β,.refl hW,hf,rfl,rfl⟩
  ·rename_i id ops dr
   split at h
   ·exact wp_region (Ki hE hih h (zMs ops) hW hf fun _ _ _ h=>h)
   ·exact hD h hW hf
  ·rename_i x y
   replace h:=aC h; obtain ⟨r,hr,h⟩:=h
   obtain ⟨ex1,tm1,A1⟩:=r
   refine wp_seq (wp_mono (hih _ _ .pl _ _ _ _ _ _ hr β w a hW hf) ?_)
   rintro e a1 w1 ⟨β1,hgo,hf1,hx,hd⟩
   split at h
   ·rename_i tm2 A2 heq
    simp only [aB] at heq
    obtain ⟨rfl,rfl,rfl⟩:=heq
    simp only [fJ] at hx
    subst hx
    exact wp_mono (hih _ _ .pl _ _ _ _ _ _ h β1 w1 a1 hgo.rel hf1) fun _ _ _ ha=>Kj hgo hd ha
   ·rename_i hnn
    simp only [aA,aB] at h
    obtain ⟨rfl,rfl,rfl⟩:=h
    cases e with
    | normal =>
     have:=(vG hx).1.2 rfl
     subst this
     exact absurd rfl (hnn tm1 A1)
    | _=>exact ⟨β1,hgo,hf1,hx,hd⟩
  ·rename_i zYw x y
   replace h:=aC h; obtain ⟨v,hv,h⟩:=h
   have hev:=hf.ev zYw v hv
   split at h
   ·simp only [AV.Rel] at hev
    exact wp_cond hev (hih _ _ .pl _ _ _ _ _ _ h β w a hW hf)
   ·simp only [AV.Rel] at hev
    exact wp_cond hev (hih _ _ .pl _ _ _ _ _ _ h β w a hW hf)
   ·cases h
  ·rename_i id x
   replace h:=aC h; obtain ⟨r,hr,h⟩:=h
   obtain ⟨ex1,tm1,A1⟩:=r
   refine wp_block (wp_mono (hih _ _ .pl _ _ _ _ _ _ hr β w a hW hf) ?_)
   rintro e a1 w1 ⟨β1,hgo,hf1,hx,hd⟩
   split at h
   ·rename_i i tm2 A2 heq
    simp only [aB] at heq
    obtain ⟨rfl,rfl,rfl⟩:=heq
    simp only [aA,aB] at h
    obtain ⟨h,rfl,rfl⟩:=h
    simp only [fJ] at hx
    subst hx
    simp only [Exit.inBlock]
    unfold cnd at h
    split at h
    ·rename_i hb
     rw [if_pos (aG hb)]
     subst h
     exact ⟨β1,hgo,hf1,rfl,hd⟩
    ·rename_i hb
     rw [if_neg (fun e=>by subst e; rw [Nat.beq_refl] at hb; cases hb)]
     subst h
     exact ⟨β1,hgo,hf1,rfl,hd⟩
   ·rename_i hne
    simp only [aA,aB] at h
    obtain ⟨rfl,rfl,rfl⟩:=h
    cases e with
    | exit i =>
     have:=((vG hx).2.1 i).2 rfl
     subst this
     exact absurd rfl (hne i tm1 A1)
    | _=>exact ⟨β1,hgo,hf1,hx,hd⟩
  ·rename_i x
   intro b k cs
   obtain ⟨y,a1,w1,haft,harr⟩:=hih _ _ (.lp x) _ _ _ _ _ _ h β w a hW hf b k cs
   exact ⟨y,a1,w1,haft,.of_steps (.one step_loop) harr⟩
  ·rename_i x
   intro b k cs
   obtain ⟨y,a1,w1,haft,harr⟩:=hih _ _ (.sc x) _ _ _ _ _ _ h β w a hW hf b k cs
   exact ⟨y,a1,w1,haft,.of_steps (.one step_scope) harr⟩
  ·simp only [aA,aB] at h
   obtain ⟨rfl,rfl,rfl⟩:=h
   exact wp_exit ⟨β,.refl hW,hf,rfl,rfl⟩
  ·simp only [aA,aB] at h
   obtain ⟨rfl,rfl,rfl⟩:=h
   exact wp_goto ⟨β,.refl hW,hf,rfl,rfl⟩
  ·simp only [aA,aB] at h
   obtain ⟨rfl,rfl,rfl⟩:=h
   exact wp_ret ⟨β,.refl hW,hf,rfl,rfl⟩
  ·cases h
end
end Go.Ce
namespace Go.Ce
def cut (β:Bt) (b:Nat):Bt:=fun id=>if id < b then β id else none
theorem oM {β:Bt} {b id:Nat} (h:id < b):cut β b id=β id:=by simp [cut,h]
theorem zMt {β:Bt} {b id:Nat} (h:b <= id):cut β b id=none:=by simp [cut]; omega
theorem eO {β:Bt} {b id:Nat} {p:Nat × Nat × Nat} (h:cut β b id=some p):id < b∧β id=some p:=by
 unfold cut at h
 split at h
 ·exact ⟨by assumption,h⟩
 ·cases h
theorem zMu (β:Bt) (b:Nat):Le (cut β b) β:=fun _ _ h=>(eO h).2
theorem mD {β β':Bt} {b b':Nat} (h:Le β β') (hb:b <= b'):Le (cut β b) (cut β' b'):=fun id p hp=>by
 obtain ⟨h1,h2⟩:=eO hp
 rw [oM (by omega)]
 exact h _ _ h2
mutual
theorem jJ {β:Bt} {b:Nat}:∀ {v:AV} {x:Value},AV.under b v=true->v.Rel β x->v.Rel (cut β b) x
 | .bo _,_,_,h=>h
 | .it ..,_,_,h=>h
 | .st _,_,_,h=>h
 | .fl ..,_,_,h=>h
 | .cx ..,_,_,h=>h
 | .np,_,_,h=>h
 | .pt ..,_,hu,⟨c,o,n,h,e⟩=>⟨c,o,n,by rw [oM (by simpa [AV.under,Nat.blt_eq] using hu)]; exact h,e⟩
 | .ns,_,_,h=>h
 | .sl ..,_,hu,⟨c,o,n,k,h,e⟩=>⟨c,o,n,k,by rw [oM (by simpa [AV.under,Nat.blt_eq] using hu)]; exact h,e⟩
 | .se _,_,_,h=>h
 | .nm,_,_,h=>h
 | .mp _,_,hu,⟨c,n,h,e⟩=>⟨c,n,by rw [oM (by simpa [AV.under,Nat.blt_eq] using hu)]; exact h,e⟩
 | .md ..,_,_,h=>h
 | .nf,_,_,h=>h
 | .fn ..,_,hu,⟨x,y,e,h1,h2⟩=>by
  simp only [AV.under,aF] at hu
  exact ⟨x,y,e,nX hu.1 h1,nX hu.2 h2⟩
 | .ni,_,_,h=>h
 | .ic ..,_,hu,⟨x,e,h⟩=>⟨x,e,jJ (by simpa [AV.under] using hu) h⟩
 | .ag _,_,hu,⟨x,e,h⟩=>⟨x,e,nX (by simpa [AV.under] using hu) h⟩
 | .tu _,_,hu,⟨x,e,h⟩=>⟨x,e,nX (by simpa [AV.under] using hu) h⟩
theorem nX {β:Bt} {b:Nat}:∀ {l:List AV} {xs:List Value},AV.jX b l=true->AV.aN β l xs->AV.aN (cut β b) l xs
 | [],_,_,h=>h
 | _ :: _,_,hu,⟨x,xs,e,h,h'⟩=>by
  simp only [AV.jX,aF] at hu
  exact ⟨x,xs,e,jJ hu.1 h,nX hu.2 h'⟩
end
theorem zFp:∀ {a b:List Nat},vE a b=true->a=b
 | [],[],_=>rfl
 | [],_ :: _,h=>by simp [vE] at h
 | _ :: _,[],h=>by simp [vE] at h
 | a :: x,b :: y,h=>by
  simp only [vE,cnd] at h
  split at h
  ·rename_i hb
   rw [aG hb,zFp h]
  ·cases h
mutual
theorem same_eq:∀ {a b:AV},AV.same a b=true->a=b
 | a,b,h=>by
  cases a <;> cases b <;> simp only [AV.same,Bool.false_eq_true] at h <;> try rfl
  case bo.bo=>rw [beq_iff_eq.1 h]
  case it.it=>simp only [aF,decide_eq_true_eq] at h; rw [h.1,h.2]
  case st.st=>rw [zFp h]
  case pt.pt=>simp only [aF] at h; rw [aG h.1,aG h.2]
  case mp.mp=>rw [aG h]
  case sl.sl =>
   simp only [aF,beq_iff_eq] at h
   obtain ⟨⟨⟨⟨⟨h1,h2⟩,h3⟩,h4⟩,h5⟩,h6⟩:=h
   rw [aG h1,aG h2,aG h3,aG h4,aG h5,h6]
  case se.se=>rw [beq_iff_eq.1 h]
  case ag.ag=>rw [zCe h]
  case ic.ic=>simp only [aF] at h; rw [aG h.1,same_eq h.2]
theorem zCe:∀ {a b:List AV},AV.Ls a b=true->a=b
 | [],[],_=>rfl
 | [],_ :: _,h=>by simp [AV.Ls] at h
 | _ :: _,[],h=>by simp [AV.Ls] at h
 | a :: x,b :: y,h=>by
  simp only [AV.Ls,aF] at h
  rw [same_eq h.1,zCe h.2]
end
theorem T.qH {α:Type}:∀ (a b:T α) (n:Nat),(T.union a b).get n=match a.get n with | some x=>some x | none=>b.get n
 | .nil,b,n=>by simp [T.union,T.get]
 | .node l v r,.nil,n=>by
  have:(T.nil:T α).get n=none:=rfl
  simp only [T.union,this]
  cases (T.node l v r).get n <;> rfl
 | .node l v r,.node l' v' r',n=>by
  rw [T.dX,T.dX (.node l v r),T.dX (.node l' v' r')]
  simp only [T.union,T.vl,T.lf,T.rt]
  split
  ·cases v <;> rfl
  ·split
   ·exact T.qH l l' _
   ·exact T.qH r r' _
theorem T.Gm {α:Type} {f:α->Bool}:∀ {t:T α} {n:Nat} {x:α},T.all f t=true->t.get n=some x->f x=true
 | .nil,_,_,_,h=>by simp [T.get] at h
 | .node l v r,n,x,ha,h=>by
  simp only [T.all,aF] at ha
  rw [T.dX] at h
  simp only [T.vl,T.lf,T.rt] at h
  split at h
  ·subst h; exact ha.1
  ·split at h
   ·exact T.Gm ha.2.1 h
   ·exact T.Gm ha.2.2 h
theorem Ac (m i:Nat):bit m i=m.testBit i:=by
 unfold bit Nat.testBit
 have h:Nat.land (Nat.shiftRight m i) 1=1 &&& (m >>> i):=by
  show (m >>> i) &&& 1=1 &&& (m >>> i)
  exact Nat.and_comm _ _
 rw [h]
 have h2:(1 &&& (m >>> i))=0∨(1 &&& (m >>> i))=1:=by
  rw [Nat.one_and_eq_mod_two]; omega
 rcases h2 with h2 | h2 <;> rw [h2] <;> rfl
theorem Tc (a b i:Nat):bit (Nat.lor a b) i=(bit a i || bit b i):=by
 rw [Ac,Ac,Ac]
 show (a ||| b).testBit i=_
 rw [Nat.testBit_or]
theorem zFq (k i:Nat):bit (2 ^ k) i=decide (k=i):=by
 rw [Ac,Nat.testBit_two_pow]
theorem zCf:∀ (l:List Nat) (i:Nat),Lu l i=l[i]?
 | [],_=>by simp [Lu]
 | _ :: _,0=>by simp [Lu]
 | _ :: r,i+1=>by simp [Lu,zCf r i]
theorem rF {ms:List Nat}:∀ {es:List Edge} {d:Nat},Fq ms es=some d ->
  (∀ e ∈ es,Region.binds .any e=true->bit d e.on=true∧e.on < ms.length)∧(∀ i,bit d i=true->∃ e ∈ es,Region.binds .any e=true∧(e.on=i∨∃ m,ms[e.on]?=some m∧bit m i=true))
 | [],d,h=>by
  simp only [Fq,aA] at h
  subst h
  refine ⟨(fun e he=>by cases he),fun i hi=>?_⟩
  rw [Ac] at hi
  simp at hi
 | e :: es,d,h=>by
  simp only [Fq] at h
  split at h
  ·rename_i hb
   obtain ⟨h1,h2⟩:=rF h
   refine ⟨fun x hx hbx=>?_,fun i hi=>?_⟩
   ·cases hx with
    | head=>rw [hb] at hbx; cases hbx
    | tail _ hx=>exact h1 x hx hbx
   ·obtain ⟨x,hx,k⟩:=h2 i hi
    exact ⟨x,.tail _ hx,k⟩
  ·rename_i hb
   replace h:=aC h; obtain ⟨m,hm,h⟩:=h
   replace h:=aC h; obtain ⟨d',hd,h⟩:=h
   simp only [aA] at h
   subst h
   rw [zCf] at hm
   obtain ⟨h1,h2⟩:=rF hd
   refine ⟨fun x hx hbx=>?_,fun i hi=>?_⟩
   ·rw [Tc,Tc,zFq]
    cases hx with
    | head=>exact ⟨by simp,(aS.1 hm).1⟩
    | tail _ hx=>exact ⟨by simp [(h1 x hx hbx).1],(h1 x hx hbx).2⟩
   ·rw [Tc,Tc,zFq,Bool.or_eq_true,Bool.or_eq_true,decide_eq_true_eq] at hi
    rcases hi with (hi | hi) | hi
    ·exact ⟨e,.head _,hb,.inl hi⟩
    ·exact ⟨e,.head _,hb,.inr ⟨m,hm,hi⟩⟩
    ·obtain ⟨x,hx,k⟩:=h2 i hi
     exact ⟨x,.tail _ hx,k⟩
theorem wE:∀ {r:List Oper} {ms ds:List Nat},wS ms r=some ds->∃ es,ds=ms++es∧es.length=r.length∧∀ i o,r[i]?=some o->∃ d,ds[ms.length+i]?=some d∧Fq (ds.take (ms.length+i)) o.after.toList=some d
 | [],ms,ds,h=>by simp only [wS,aA] at h; subst h; exact ⟨[],by simp,rfl,fun i o h=>by simp at h⟩
 | o :: r,ms,ds,h=>by
  simp only [wS] at h
  replace h:=aC h; obtain ⟨d,hd,h⟩:=h
  obtain ⟨es,rfl,hl,hi⟩:=wE h
  refine ⟨d :: es,by simp,by simp [hl],fun i x hx=>?_⟩
  cases i with
  | zero =>
   simp only [List.getElem?_cons_zero,aA] at hx
   subst hx
   refine ⟨d,by simp,?_⟩
   rw [List.append_assoc,Nat.add_zero,List.take_left']
   ·exact hd
   ·rfl
  | succ i =>
   simp only [List.getElem?_cons_succ] at hx
   obtain ⟨d',h1,h2⟩:=hi i x hx
   rw [List.length_append,List.length_singleton] at h1 h2
   exact ⟨d',by rw [<- h1]; congr 1; omega,by rw [<- h2]; congr 2; omega⟩
section
variable (E:Env) (ih:Runs) (n lo:Nat)
theorem Du {L:List Oper}:∀ {r:List Oper} {ds:List Nat} {j:Nat} {s s':DS},zI E ih n lo L j ds r s=some s' ->
  ∃ st:Nat->DS,st j=s∧st (j+r.length)=s'∧∀ i o,r[i]?=some o->∃ d,ds[i]?=some d∧Fz E ih n lo L (j+i) d o (st (j+i))=some (st (j+i+1))
 | [],ds,j,s,s',h=>by
  simp only [zI,aA] at h
  subst h
  exact ⟨fun _=>s,rfl,rfl,fun i o h=>by simp at h⟩
 | o :: r,[],j,s,s',h=>by simp [zI] at h
 | o :: r,d :: ds,j,s,s',h=>by
  simp only [zI] at h
  replace h:=aC h; obtain ⟨s1,hs,h⟩:=h
  obtain ⟨st,h1,h2,h3⟩:=Du h
  refine ⟨fun i=>if i=j then s else st i,by simp,?_,fun i x hx=>?_⟩
  ·simp only [List.length_cons]
   rw [if_neg (by omega),<- h2]
   congr 1
   omega
  ·cases i with
   | zero =>
    simp only [List.getElem?_cons_zero,aA] at hx
    subst hx
    refine ⟨d,rfl,?_⟩
    simp only [Nat.add_zero,if_true]
    rw [if_neg (by omega),h1]
    exact hs
   | succ i =>
    simp only [List.getElem?_cons_succ] at hx ⊢
    obtain ⟨d',hd',hst⟩:=h3 i x hx
    refine ⟨d',hd',?_⟩
    rw [if_neg (by omega),if_neg (by omega)]
    rw [show j+(i+1)=j+1+i by omega]
    exact hst
end
end Go.Ce
namespace Go.Ce
theorem mX.symm {B B':Blk} (h:mX B B'):mX B' B:=by
 cases B <;> cases B' <;> simp only [mX] at h ⊢
 obtain ⟨h1,h2,h3,h4⟩:=h
 exact ⟨h1.symm,h3,h2,fun ⟨x,y⟩=>h4 ⟨y,x⟩⟩
structure WP (lo:Nat) (β:Bt) (h:Nat->Blk->Prop) (nx:Nat) (w:World):Prop where
 lo_le:lo <= nx
 blk:∀ id B,h id B->∃ b o n,β id=some (b,o,n)∧b < w.heap.size∧B.Rel β w.heap b o n
 nx:∀ id,nx <= id->β id=none
 here:∀ id b o n,β id=some (b,o,n)->b < w.heap.size
 sep:∀ id id' B B' b o o' n n',id ≠ id'->h id B->h id' B'->β id=some (b,o,n)->β id'=some (b,o',n')->mX B B'
 side:∀ id id' B' b o o' n n',id < lo->lo <= id'->h id' B'->β id=some (b,o,n)->β id'=some (b,o',n')->False
theorem WP.of {lo:Nat} {β:Bt} {A:W} {w:World} (h:aX lo β A w):WP lo β (fun id B=>A.H.get id=some B) A.nx w :=
 ⟨h.lo_le,h.blk,h.nx,h.here,h.sep,h.side⟩
theorem WP.to {lo:Nat} {β:Bt} {h:Nat->Blk->Prop} {nx:Nat} {A:W} {w:World} (H:WP lo β h nx w) (hs:∀ id B,A.H.get id=some B->h id B) (hn:A.nx=nx):aX lo β A w :=
 ⟨by rw [hn]; exact H.lo_le,fun id B hB=>H.blk id B (hs _ _ hB),by rw [hn]; exact H.nx,H.here,fun id id' B B' b o o' n n' hne h1 h2=>H.sep id id' B B' b o o' n n' hne (hs _ _ h1) (hs _ _ h2),
  fun id id' B' b o o' n n' h1 h2 h3=>H.side id id' B' b o o' n n' h1 h2 (hs _ _ h3)⟩
theorem WP.sub {lo:Nat} {β:Bt} {h h':Nat->Blk->Prop} {nx:Nat} {w:World} (H:WP lo β h nx w) (hs:∀ id B,h' id B->h id B):WP lo β h' nx w :=
 ⟨H.lo_le,fun id B hB=>H.blk id B (hs _ _ hB),H.nx,H.here,fun id id' B B' b o o' n n' hne h1 h2=>H.sep id id' B B' b o o' n n' hne (hs _ _ h1) (hs _ _ h2),
  fun id id' B' b o o' n n' h1 h2 h3=>H.side id id' B' b o o' n n' h1 h2 (hs _ _ h3)⟩
def mix (β β1:Bt) (base top:Nat):Bt:=fun id=>if base <= id∧id < top then β1 id else β id
theorem Td {β β1:Bt} {base top id:Nat} (h1:base <= id) (h2:id < top):mix β β1 base top id=β1 id:=by simp [mix,h1,h2]
theorem iX {β β1:Bt} {base top id:Nat} (h:id < base∨top <= id):mix β β1 base top id=β id:=by
 unfold mix
 rw [if_neg (by omega)]
structure Cor (lo:Nat) (β0:Bt) (A0:W) (w0:World) (β:Bt) (h:Nat->Blk->Prop) (nx:Nat) (w:World):Prop where
 wp:WP lo β h nx w
 ext:Le β0 β
 size:w0.heap.size <= w.heap.size
 old:∀ b,b < w0.heap.size->¬ Own lo β0 A0 b->w.heap[b]?=w0.heap[b]?
 back:∀ id B',id < A0.nx->h id B'->∃ B,A0.H.get id=some B
 fresh:∀ id b o n,A0.nx <= id->β id=some (b,o,n)->w0.heap.size <= b∨Own lo β0 A0 b
 old':∀ id p,id < A0.nx->β id=some p->β0 id=some p
 os:w.os=w0.os
 tape:w.tape=w0.tape
 output:w.output=w0.output
theorem Cor.sub {lo:Nat} {β0:Bt} {A0:W} {w0:World} {β:Bt} {h h':Nat->Blk->Prop} {nx:Nat} {w:World} (H:Cor lo β0 A0 w0 β h nx w) (hs:∀ id B,h' id B->h id B):Cor lo β0 A0 w0 β h' nx w :=
 { H with wp:=H.wp.sub hs,back:=fun id B hi hB=>H.back id B hi (hs _ _ hB) }
section
variable {lo:Nat} {β0:Bt} {A0:W} {w0:World} {β:Bt} {h:Nat->Blk->Prop} {nx:Nat} {w:World}
theorem Cor.up (H:Cor lo β0 A0 w0 β h nx w) {id b o n:Nat} {B:Blk} (hl:lo <= id) (hB:h id B) (hb:β id=some (b,o,n)):w0.heap.size <= b∨Own lo β0 A0 b:=by
 rcases aY id A0.nx with h1 | h1
 ·obtain ⟨B0,h2⟩:=H.back id B h1 hB
  exact .inr ⟨id,B0,o,n,hl,h2,H.old' id _ h1 hb⟩
 ·exact H.fresh id b o n h1 hb
structure Stp (lo1:Nat) (β:Bt) (r:Nat->Blk->Prop) (base top:Nat) (H1:T Blk) (w:World) (β1:Bt) (w1:World):Prop where
 le:Le β (mix β β1 base top)
 le1:Le β1 (mix β β1 base top)
 zCg:Le β1 (cut (mix β β1 base top) top)
 Zl:∀ id B b o n,r id B->β id=some (b,o,n)->w1.heap[b]?=w.heap[b]?
 low:∀ id,id < base->mix β β1 base top id=β id
 eq1:∀ id B,H1.get id=some B->mix β β1 base top id=β1 id∧id < top
theorem Cor.step (C : Cor lo β0 A0 w0 β h nx w) {base top lo1 : Nat} {H' H1 : T Blk} {β1 : Bt} {w1 : World} (r : Nat -> Blk -> Prop) (hlo : lo <= lo1) (hA0 : A0.nx <= base)
    (hsub : ∀ id B, H'.get id = some B -> h id B) (hr : ∀ id B, r id B -> h id B)
    (hap : ∀ id B id' B' b o n o' n', r id B -> lo1 <= id' -> H'.get id' = some B' -> β id = some (b, o, n) -> β id' = some (b, o', n') -> False)
    (Pq : ∀ id, base <= id -> id < top -> β id = none) (hbt : base <= top) (htop : top <= nx)
    (hW : aX lo1 (cut β base) ⟨H', base⟩ w) (hgo : Go lo1 (cut β base) ⟨H', base⟩ w β1 ⟨H1, top⟩ w1) :
    Cor lo β0 A0 w0 (mix β β1 base top) (fun id B => r id B ∨ H1.get id = some B) nx w1 ∧ Stp lo1 β r base top H1 w β1 w1 := by
  have hlo1 : lo1 <= base := hW.lo_le
  have hlow : ∀ id p, id < base -> β1 id = some p -> β id = some p := fun id p hi hp => (eO (hgo.old' id p hi hp)).2
  have hlow' : ∀ id p, id < base -> β id = some p -> β1 id = some p := fun id p hi hp => hgo.ext id p (by rw [oM hi]; exact hp)
  have zXo : ∀ id, id < base -> β1 id = β id := fun id hi => by
    cases hb : β id with
    | some p => exact hlow' id p hi hb
    | none => cases hb1 : β1 id with
      | none => rfl
      | some p => rw [hlow id p hi hb1] at hb; cases hb
  have zRp : ∀ id, top <= id -> β1 id = none := fun id hi => hgo.rel.nx id hi
  have hle : Le β (mix β β1 base top) := fun id p hp => by
    rcases aY id base with h1 | h1
    · rw [iX (.inl h1)]; exact hp
    · rcases aY id top with h2 | h2
      · rw [Pq id h1 h2] at hp; cases hp
      · rw [iX (.inr h2)]; exact hp
  have hle1 : Le β1 (mix β β1 base top) := fun id p hp => by
    rcases aY id base with h1 | h1
    · rw [iX (.inl h1)]; exact hlow id p h1 hp
    · rcases aY id top with h2 | h2
      · rw [Td h1 h2]; exact hp
      · rw [zRp id h2] at hp; cases hp
  have zXp : Le β1 (cut (mix β β1 base top) top) := fun id p hp => by
    rcases aY id top with h2 | h2
    · rw [oM h2]; exact hle1 id p hp
    · rw [zRp id h2] at hp; cases hp
  have heq1 : ∀ id B, H1.get id = some B -> mix β β1 base top id = β1 id ∧ id < top := fun id B hB => by
    have h2 : id < top := hgo.rel.lt hB
    refine ⟨?_, h2⟩
    rcases aY id base with h1 | h1
    · rw [iX (.inl h1), zXo id h1]
    · rw [Td h1 h2]
  have zCh : ∀ id B, r id B -> mix β β1 base top id = β id := fun id B hB => by
    obtain ⟨b, o, n, hb, _⟩ := C.wp.blk id B (hr _ _ hB)
    rw [hle id _ hb, hb]
  have hown : ∀ b, Own lo1 (cut β base) ⟨H', base⟩ b -> ∃ id B o n, lo1 <= id ∧ H'.get id = some B ∧ β id = some (b, o, n) := fun b ⟨id, B, o, n, h1, h2, h3⟩ => ⟨id, B, o, n, h1, h2, (eO h3).2⟩
  have hrk : ∀ id B b o n, r id B -> β id = some (b, o, n) -> w1.heap[b]? = w.heap[b]? := fun id B b o n hB hb =>
    hgo.old b (C.wp.here id b o n hb) fun ho => by
      obtain ⟨id', B', o', n', h1, h2, h3⟩ := hown b ho
      exact hap id B id' B' b o n o' n' hB h1 h2 hb h3
  refine ⟨⟨⟨C.wp.lo_le, ?_, ?_, ?_, ?_, ?_⟩, ?_, ?_, ?_, ?_, ?_, ?_, ?_, ?_, ?_⟩, ⟨hle, hle1, zXp, hrk, fun id hi => iX (.inl hi), heq1⟩⟩
  ·
    rintro id B (hB | hB)
    · obtain ⟨b, o, n, hb, hlt, hrel⟩ := C.wp.blk id B (hr _ _ hB)
      exact ⟨b, o, n, hle _ _ hb, Nat.lt_of_lt_of_le hlt hgo.size, hrel.mono hle (hrk id B b o n hB hb)⟩
    · obtain ⟨b, o, n, hb, hlt, hrel⟩ := hgo.rel.blk id B hB
      exact ⟨b, o, n, hle1 _ _ hb, hlt, hrel.mono hle1 rfl⟩
  · intro id hi
    rw [iX (.inr (by omega))]
    exact C.wp.nx id hi
  · intro id b o n hb
    rcases aY id base with h1 | h1
    · rw [iX (.inl h1)] at hb
      exact Nat.lt_of_lt_of_le (C.wp.here id b o n hb) hgo.size
    · rcases aY id top with h2 | h2
      · rw [Td h1 h2] at hb; exact hgo.rel.here id b o n hb
      · rw [iX (.inr h2)] at hb
        exact Nat.lt_of_lt_of_le (C.wp.here id b o n hb) hgo.size
  ·
    have cross : ∀ id id' B B' b o o' n n', id ≠ id' -> r id B -> H1.get id' = some B' -> β id = some (b, o, n) -> mix β β1 base top id' = some (b, o', n') -> mX B B' := by
      intro id id' B B' b o o' n n' hne hB hB' hb hb'
      have hbs := C.wp.here id b o n hb
      rw [(heq1 id' B' hB').1] at hb'
      rcases aY id' base with h1 | h1
      · have hb2 := hlow id' _ h1 hb'
        rcases aY id' lo1 with h2 | h2
        · have hk := hgo.keep id' h2
          rw [hB'] at hk
          exact C.wp.sep id id' B B' b o o' n n' hne (hr _ _ hB) (hsub _ _ hk.symm) hb hb2
        · obtain ⟨B0, h0⟩ := hgo.back id' B' h1 hB'
          exact (hap id B id' B0 b o n o' n' hB h2 h0 hb hb2).elim
      · rcases hgo.fresh id' b o' n' h1 hb' with h3 | h3
        · omega
        · obtain ⟨i2, B2, o2, n2, h4, h5, h6⟩ := hown b h3
          exact (hap id B i2 B2 b o n o2 n2 hB h4 h5 hb h6).elim
    intro id id' B B' b o o' n n' hne h1 h2 hb hb'
    rcases h1 with h1 | h1 <;> rcases h2 with h2 | h2
    · rw [zCh _ _ h1] at hb
      rw [zCh _ _ h2] at hb'
      exact C.wp.sep id id' B B' b o o' n n' hne (hr _ _ h1) (hr _ _ h2) hb hb'
    · rw [zCh _ _ h1] at hb
      exact cross id id' B B' b o o' n n' hne h1 h2 hb hb'
    · rw [zCh _ _ h2] at hb'
      exact (cross id' id B' B b o' o n' n (Ne.symm hne) h2 h1 hb' hb).symm
    · rw [(heq1 _ _ h1).1] at hb
      rw [(heq1 _ _ h2).1] at hb'
      exact hgo.rel.sep id id' B B' b o o' n n' hne h1 h2 hb hb'
  ·
    intro id id' B' b o o' n n' hi hi' h2 hb hb'
    rw [iX (.inl (by omega))] at hb
    rcases h2 with h2 | h2
    · rw [zCh _ _ h2] at hb'
      exact C.wp.side id id' B' b o o' n n' hi hi' (hr _ _ h2) hb hb'
    · rw [(heq1 _ _ h2).1] at hb'
      rcases aY id' base with h1 | h1
      · have hb2 := hlow id' _ h1 hb'
        obtain ⟨B0, h0⟩ := hgo.back id' B' h1 h2
        exact C.wp.side id id' B0 b o o' n n' hi hi' (hsub _ _ h0) hb hb2
      · rcases hgo.fresh id' b o' n' h1 hb' with h3 | h3
        · have := C.wp.here id b o n hb
          omega
        · obtain ⟨i2, B2, o2, n2, h4, h5, h6⟩ := hown b h3
          exact C.wp.side id i2 B2 b o o2 n n2 hi (by omega) (hsub _ _ h5) hb h6
  · exact C.ext.trans hle
  · exact Nat.le_trans C.size hgo.size
  · intro b hb ho
    rw [hgo.old b (Nat.lt_of_lt_of_le hb C.size) ?_, C.old b hb ho]
    intro ho1
    obtain ⟨i2, B2, o2, n2, h4, h5, h6⟩ := hown b ho1
    rcases C.up (by omega) (hsub _ _ h5) h6 with h7 | h7
    · omega
    · exact ho h7
  · rintro id B' hi (h1 | h1)
    · exact C.back id B' hi (hr _ _ h1)
    · obtain ⟨B0, h0⟩ := hgo.back id B' (by simp only; omega) h1
      exact C.back id B0 hi (hsub _ _ h0)
  · intro id b o n hi hb
    rcases aY id base with h1 | h1
    · rw [iX (.inl h1)] at hb
      exact C.fresh id b o n hi hb
    · rcases aY id top with h2 | h2
      · rw [Td h1 h2] at hb
        rcases hgo.fresh id b o n h1 hb with h3 | h3
        · exact .inl (Nat.le_trans C.size h3)
        · obtain ⟨i2, B2, o2, n2, h4, h5, h6⟩ := hown b h3
          exact C.up (by omega) (hsub _ _ h5) h6
      · rw [iX (.inr h2)] at hb
        exact C.fresh id b o n hi hb
  · intro id p hi hb
    rw [iX (.inl (by omega))] at hb
    exact C.old' id p hi hb
  · exact hgo.os.trans C.os
  · exact hgo.tape.trans C.tape
  · exact hgo.output.trans C.output
end
theorem zMv {B B':Blk} (h:B.lone=true):¬ mX B B':=by
 intro hm
 cases B <;> cases B' <;> simp only [mX] at hm
 ·simp only [Blk.lone,aF,Bool.not_eq_true'] at h
  have:=hm.2.1 h.1
  rw [h.2] at this
  cases this
 ·simp [Blk.lone] at h
end Go.Ce
