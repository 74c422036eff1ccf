/- Part of a proof over this seat: a library of my own, and what it says of this seat. No statement is proved here. -/
import Derived.Test.YtdgneppobefaoaaGreatDoorPartAO
import Derived.Laws.IdiomCopy
import Derived.Deep.AppendSrc
import Derived.Laws.BytesString
import Derived.Lib.ConvBytes
import Derived.Test.YtdgneppobefaoaaGreatDoorPartAC
namespace Go.Ce
theorem wT {α:Type}:∀ (n:Nat) (l:List α),drp n l=l.drop n
 | 0,l=>by simp [drp]
 | _+1,[]=>by simp [drp]
 | n+1,_ :: r=>by simp [drp,wT n r]
theorem Dq:∀ {n:Nat} {l r:List AV},tk n l=some r->r=l.take n∧n <= l.length
 | 0,l,r,h=>by simp only [tk,aA] at h; subst h; simp
 | _+1,[],r,h=>by simp [tk] at h
 | n+1,a :: l,r,h=>by
  simp only [tk] at h
  split at h
  ·rename_i l' hl
   simp only [aA] at h
   subst h
   obtain ⟨rfl,hn⟩:=Dq hl
   exact ⟨by simp,by simpa using hn⟩
  ·cases h
theorem zBu:∀ (l:List AV) (i:Nat),nth l i=l[i]?
 | [],_=>by simp [nth]
 | _ :: _,0=>by simp [nth]
 | _ :: r,i+1=>by simp [nth,zBu r i]
theorem len_eq {α:Type}:∀ l:List α,len l=l.length
 | []=>rfl
 | _ :: r=>by simp [len,len_eq r]
theorem Xr:∀ {new cs r:List AV},over new cs=some r->r=new++cs.drop new.length∧new.length <= cs.length
 | [],cs,r,h=>by simp only [over,aA] at h; subst h; simp
 | n :: new,[],r,h=>by simp [over] at h
 | n :: new,_ :: cs,r,h=>by
  simp only [over] at h
  split at h
  ·rename_i l hl
   simp only [aA] at h
   subst h
   obtain ⟨rfl,hn⟩:=Xr hl
   exact ⟨by simp,by simpa using hn⟩
  ·cases h
theorem wC:∀ {k:Nat} {cs new r:List AV},splice k cs new=some r->r=cs.take k++(new++cs.drop (k+new.length))∧k+new.length <= cs.length
 | 0,cs,new,r,h=>by simp only [splice] at h; obtain ⟨rfl,hn⟩:=Xr h; simp; exact hn
 | k+1,[],new,r,h=>by simp [splice] at h
 | k+1,c :: cs,new,r,h=>by
  simp only [splice] at h
  split at h
  ·rename_i l hl
   simp only [aA] at h
   subst h
   obtain ⟨rfl,hn⟩:=wC hl
   refine ⟨?_,by simp; omega⟩
   have:k+1+new.length=(k+new.length)+1:=by omega
   simp [this]
  ·cases h
theorem zFm {β:Bt} {a:AV} {v:Value} (h:a.one=true) (hr:a.Rel β v):v.oneCell'=true:=by
 cases a <;> simp only [AV.one,Bool.false_eq_true] at h <;> simp only [AV.Rel] at hr
 case pt=>obtain ⟨_,_,_,_,rfl⟩:=hr; rfl
 case sl=>obtain ⟨_,_,_,_,_,rfl,_⟩:=hr; rfl
 case se=>obtain ⟨_,_,rfl,_⟩:=hr; rfl
 case mp=>obtain ⟨_,_,_,rfl⟩:=hr; rfl
 case md=>obtain ⟨_,rfl,_⟩:=hr; rfl
 case st=>obtain ⟨_,rfl,_⟩:=hr; rfl
 case fn=>obtain ⟨_,_,rfl,_⟩:=hr; rfl
 case ic=>obtain ⟨_,rfl,_⟩:=hr; rfl
 all_goals (subst hr; rfl)
theorem zBv {β:Bt} {l:List AV} {vs:List Value} (h:jH l=true) (hr:AV.aN β l vs):∀ v ∈ vs,v.oneCell'=true:=by
 induction l generalizing vs with
 | nil=>simp only [AV.aN] at hr; subst hr; simp
 | cons a l ih =>
  obtain ⟨x,xs,rfl,h1,h2⟩:=hr
  simp only [jH,aF] at h
  intro v hv
  cases hv with
  | head=>exact zFm h.1 h1
  | tail _ hv=>exact ih h.2 h2 v hv
theorem zBw {v:Value} {a:AV} (h:zIs v=some a) (β:Bt):a.Rel β v∧a.one=true:=by
 unfold zIs at h
 split at h <;> simp only [aA,reduceCtorEq] at h <;> subst h <;> simp [AV.Rel,AV.one]
theorem Bg:∀ {vs:List Value} {l:List AV},Ll vs=some l->∀ β:Bt,AV.aN β l vs∧jH l=true
 | [],l,h,β=>by simp only [Ll,aA] at h; subst h; exact ⟨rfl,rfl⟩
 | v :: vs,l,h,β=>by
  simp only [Ll] at h
  split at h
  ·rename_i a l' h1 h2
   simp only [aA] at h
   subst h
   obtain ⟨h3,h4⟩:=zBw h1 β
   obtain ⟨h5,h6⟩:=Bg h2 β
   exact ⟨⟨v,vs,rfl,h3,h5⟩,by simp [jH,h4,h6]⟩
  ·cases h
structure gH (P:Program) (t:TypeId) (ci:CI):Prop where
 i:∃ (i:TypeInfo) (z:Value),P.info? t=some i∧i.size=ci.size∧i.bytes=ci.bytes∧i.zero=some z∧Ll z.cells.toList=some ci.zero∧z.cells.size=i.size∧ci.k.isAgg=lJ z
 und:∃ d,P.underlying t=some d∧CK.of d=ci.k
 eqs:zPp P t ci.k=ci.eqs
theorem zTh {P:Program} {t:TypeId} {ci:CI} (h:zPq P t=some ci):gH P t ci:=by
 unfold zPq at h
 split at h
 ·rename_i i d hi hd
  split at h
  ·rename_i z hz
   split at h
   ·rename_i ls hls
    unfold cnd at h
    split at h
    ·rename_i hc
     simp only [aA] at h
     subst h
     rw [aF] at hc
     exact ⟨⟨i,z,hi,rfl,rfl,hz,hls,by simpa using hc.2,by simpa using hc.1⟩,⟨d,hd,rfl⟩,rfl⟩
    ·cases h
   ·cases h
  ·cases h
 ·cases h
def TOK (P:Program) (I:T CI):Prop:=∀ t ci,I.get t=some ci->gH P t ci
section types
variable {P:Program} {w:World} {t e:TypeId} {ci:CI}
theorem gH.sizeOf (h:gH P t ci):(Go.sizeOf t).run P w=.ok ci.size w:=by
 obtain ⟨i,z,hi,hs,_⟩:=h.i
 simp [Go.sizeOf,typeInfo,hi,hs]
theorem gH.isAgg (h:gH P t ci):(Go.isAgg t).run P w=.ok ci.k.isAgg w:=by
 obtain ⟨d,hd,hk⟩:=h.und
 rw [<- hk]
 simp only [Go.isAgg,Sem.run_bind,run_underlying hd,Result.andThen_ok]
 cases d <;> rfl
theorem gH.zero (h:gH P t ci):∃ z:Value,(zeroValue t).run P w=.ok z w∧(∀ β:Bt,AV.aN β ci.zero z.cells.toList)∧jH ci.zero=true∧ci.zero.length=ci.size∧z.cells.size=ci.size∧ci.k.isAgg=lJ z:=by
 obtain ⟨i,z,hi,hs,_,hz,ha,hl,hg⟩:=h.i
 refine ⟨z,by simp [zeroValue,typeInfo,hi,hz],fun β=>(Bg ha β).1,(Bg ha (fun _=>none)).2,?_,by rw [hl,hs],hg⟩
 rw [(Bg ha (fun _=>none)).1.length,Array.length_toList,hl,hs]
theorem gH.slice (h:gH P t ci) (hk:ci.k=.slice e):P.underlying t=some (.slice e):=by
 obtain ⟨d,hd,hk'⟩:=h.und
 rw [hk] at hk'
 cases d <;> simp only [CK.of,CK.slice.injEq,reduceCtorEq] at hk'
 subst hk'
 exact hd
theorem gH.arr {n:Nat} (h:gH P t ci) (hk:ci.k=.arr n e):P.underlying t=some (.array n e):=by
 obtain ⟨d,hd,hk'⟩:=h.und
 rw [hk] at hk'
 cases d <;> simp only [CK.of,CK.arr.injEq,reduceCtorEq] at hk'
 obtain ⟨rfl,rfl⟩:=hk'
 exact hd
theorem gH.str (h:gH P t ci) (hk:ci.k=.str):P.underlying t=some .string:=by
 obtain ⟨d,hd,hk'⟩:=h.und
 rw [hk] at hk'
 cases d <;> simp only [CK.of,reduceCtorEq] at hk'
 exact hd
theorem gH.int {k:IntKind} (h:gH P t ci) (hk:ci.k=.int k):P.underlying t=some (.int k):=by
 obtain ⟨d,hd,hk'⟩:=h.und
 rw [hk] at hk'
 cases d <;> simp only [CK.of,CK.int.injEq,reduceCtorEq] at hk'
 subst hk'
 exact hd
theorem gH.ptr (h:gH P t ci) (hk:ci.k=.ptr e):P.underlying t=some (.pointer e):=by
 obtain ⟨d,hd,hk'⟩:=h.und
 rw [hk] at hk'
 cases d <;> simp only [CK.of,CK.ptr.injEq,reduceCtorEq] at hk'
 subst hk'
 exact hd
theorem gH.map {k:TypeId} (h:gH P t ci) (hk:ci.k=.map k e):P.underlying t=some (.map k e):=by
 obtain ⟨d,hd,hk'⟩:=h.und
 rw [hk] at hk'
 cases d <;> simp only [CK.of,CK.map.injEq,reduceCtorEq] at hk'
 obtain ⟨rfl,rfl⟩:=hk'
 exact hd
theorem gH.struct {fs:List (Nat × TypeId)} (h:gH P t ci) (hk:ci.k=.struct fs):∃ ff:Array Field,P.underlying t=some (.struct ff)∧fs=ff.toList.map fun f=>(f.offset,f.type):=by
 obtain ⟨d,hd,hk'⟩:=h.und
 rw [hk] at hk'
 cases d <;> simp only [CK.of,CK.struct.injEq,reduceCtorEq] at hk'
 exact ⟨_,hd,hk'.symm⟩
theorem gH.iface (h:gH P t ci) (hk:ci.k=.iface):∃ ms,P.underlying t=some (.interface ms):=by
 obtain ⟨d,hd,hk'⟩:=h.und
 rw [hk] at hk'
 cases d <;> simp only [CK.of,reduceCtorEq] at hk'
 exact ⟨_,hd⟩
theorem gH.func (h:gH P t ci) (hk:ci.k=.func):∃ a b c,P.underlying t=some (.func a b c):=by
 obtain ⟨d,hd,hk'⟩:=h.und
 rw [hk] at hk'
 cases d <;> simp only [CK.of,reduceCtorEq] at hk'
 exact ⟨_,_,_,hd⟩
end types
section
variable {lo:Nat} {β:Bt} {A:W} {w:World}
theorem Pf {c:Nat} {e:TypeId} (h:c < big):yM c e:=by
 unfold yM dI
 rw [Nat.div_eq_of_lt h]
 trivial
theorem zXm (K n e:Nat) (h:n < K):(n+K * (e+1)) / K=e+1:=by
 rw [Nat.add_mul_div_left _ _ (by omega),Nat.div_eq_of_lt h,Nat.zero_add]
theorem zPw {c:Nat} {e:TypeId} (h:c / big=e+1):yM c e:=by
 unfold yM dI
 generalize c / big=k at h
 subst h
 rfl
theorem zFn {n:Nat} {e:TypeId} (h:n < big):yM (n+big * (e+1)) e:=zPw (zXm big n e h)
theorem zMh {c:Nat} {e:TypeId} (h:zBl c e=true):yM c e:=by
 unfold zBl at h
 unfold yM
 split
 ·trivial
 ·rename_i t ht
  rw [ht] at h
  exact aG h
theorem zEj {h:Array Obj} {b o n:Nat} {t:TypeId} {cs:List AV} (hr:(Blk.typed t cs).Rel β h b o n):(Blk.cells cs 0 true false).Rel β h b o n:=by
 obtain ⟨h0,c,h1,hn,_,h3⟩:=hr
 exact ⟨c,t,(0,0),h1,⟨hn,Pf (by decide)⟩,fun _ i _ h=>by simp at h,fun i v hv=>by rw [h0,Nat.zero_add]; exact h3 i v hv⟩
theorem Vd {id off n:Nat} {l cs:List AV} {cls b o m:Nat} {top shr:Bool} (hb:β id=some (b,o,m)) (hlt:b < w.heap.size) (hR:(Blk.cells cs cls top shr).Rel β w.heap b o m) (hr:tk n (drp off cs)=some l) :
  ∃ b o m vs,β id=some (b,o,m)∧b < w.heap.size∧l.length=n∧AV.aN β l vs∧(∀ j v,vs[j]?=some v->w.cell? ⟨b,o+off+j,none⟩=some v)∧(0 < n->o+off+n <= m):=by
  obtain ⟨c,e,fz,h1,⟨hm,_⟩,_,h3⟩:=hR
  rw [wT] at hr
  obtain ⟨rfl,hn⟩:=Dq hr
  rw [List.length_drop] at hn
  have hlen:((cs.drop off).take n).length=n:=by simp; omega
  have hin:∀ j,j < n->∃ a x,((cs.drop off).take n)[j]?=some a∧c[o+off+j]?=some x∧a.Rel β x:=fun j hj=>by
   have hj2:off+j < cs.length:=by omega
   obtain ⟨x,hx,hrel⟩:=h3 (off+j) cs[off+j] (by rw [List.getElem?_eq_getElem hj2])
   refine ⟨cs[off+j],x,?_,by rw [<- hx,Nat.add_assoc],hrel⟩
   rw [List.getElem?_take,if_pos hj,List.getElem?_drop,List.getElem?_eq_getElem hj2]
  have hsz:n=0∨o+off+n <= c.size:=by
   rcases Nat.eq_zero_or_pos n with h0 | h0
   ·exact .inl h0
   ·obtain ⟨a,x,_,hx,_⟩:=hin (n - 1) (by omega)
    have:=(Array.getElem?_eq_some_iff.1 hx).1
    exact .inr (by omega)
  refine ⟨b,o,m,(c.toList.drop (o+off)).take n,hb,hlt,hlen,?_,?_,fun h0=>by rcases hsz with h | h <;> omega⟩
  ·refine AV.aN.Jq (by rw [hlen]; simp; omega) fun j a ha=>?_
   have hj:j < n:=by rw [<- hlen]; exact (aS.1 ha).1
   obtain ⟨a',x,ha',hx,hrel⟩:=hin j hj
   rw [ha] at ha'
   simp only [aA] at ha'
   subst ha'
   refine ⟨x,?_,hrel⟩
   rw [List.getElem?_take,if_pos hj,List.getElem?_drop,Array.getElem?_toList]
   exact hx
  ·intro j v hv
   rw [List.getElem?_take] at hv
   split at hv
   ·rw [List.getElem?_drop,Array.getElem?_toList] at hv
    simp only [World.cell?,h1]
    exact hv
   ·cases hv
theorem zZ (h:aX lo β A w) {id off n:Nat} {l:List AV} (hr:aRd A id off n=some l) :
  ∃ b o m vs,β id=some (b,o,m)∧b < w.heap.size∧l.length=n∧AV.aN β l vs∧(∀ j v,vs[j]?=some v->w.cell? ⟨b,o+off+j,none⟩=some v)∧(0 < n->o+off+n <= m):=by
 unfold aRd at hr
 split at hr
 ·rename_i cs cls top shr hB
  obtain ⟨b,o,m,hb,hlt,hR⟩:=h.blk id _ hB
  exact Vd hb hlt hR hr
 ·rename_i t cs hB
  obtain ⟨b,o,m,hb,hlt,hR⟩:=h.blk id _ hB
  exact Vd hb hlt (zEj hR) hr
 ·rename_i cs hB
  obtain ⟨b,o,m,hb,hlt,h0,c,e,fz,h1,h3⟩:=h.blk id _ hB
  rw [wT] at hr
  obtain ⟨rfl,hn⟩:=Dq hr
  rw [List.length_drop] at hn
  have hlen:((cs.drop off).take n).length=n:=by simp; omega
  have hin:∀ j,j < n->∃ a x,((cs.drop off).take n)[j]?=some a∧c[o+off+j]?=some x∧a.Rel β x:=fun j hj=>by
   have hj2:off+j < cs.length:=by omega
   obtain ⟨x,hx,hrel⟩:=h3 (off+j) cs[off+j] (by rw [List.getElem?_eq_getElem hj2])
   refine ⟨cs[off+j],x,?_,by rw [<- hx,Nat.add_assoc],hrel⟩
   rw [List.getElem?_take,if_pos hj,List.getElem?_drop,List.getElem?_eq_getElem hj2]
  have hsz:n=0∨o+off+n <= c.size:=by
   rcases Nat.eq_zero_or_pos n with h0 | h0
   ·exact .inl h0
   ·obtain ⟨a,x,_,hx,_⟩:=hin (n - 1) (by omega)
    have:=(Array.getElem?_eq_some_iff.1 hx).1
    exact .inr (by omega)
  refine ⟨b,o,m,(c.toList.drop (o+off)).take n,hb,hlt,hlen,?_,?_,fun h0=>by omega⟩
  ·refine AV.aN.Jq (by rw [hlen]; simp; omega) fun j a ha=>?_
   have hj:j < n:=by rw [<- hlen]; exact (aS.1 ha).1
   obtain ⟨a',x,ha',hx,hrel⟩:=hin j hj
   rw [ha] at ha'
   simp only [aA] at ha'
   subst ha'
   refine ⟨x,?_,hrel⟩
   rw [List.getElem?_take,if_pos hj,List.getElem?_drop,Array.getElem?_toList]
   exact hx
  ·intro j v hv
   rw [List.getElem?_take] at hv
   split at hv
   ·rw [List.getElem?_drop,Array.getElem?_toList] at hv
    simp only [World.cell?,h1]
    exact hv
   ·cases hv
 ·cases hr
theorem Jv {P:Program} {b off:Nat} {vs:List Value} (h:∀ j v,vs[j]?=some v->w.cell? ⟨b,off+j,none⟩=some v):(loadCells ⟨b,off,none⟩ vs.length).run P w=.ok vs.toArray w :=
 run_loadCells_list (P:=P) w ⟨b,off,none⟩ vs fun j v hv=>by rw [Addr.add_lit]; exact h j v hv
theorem Sg {P:Program} {I:T CI} (hI:TOK P I) (h:aX lo β A w) {t:TypeId} {x v:AV} {u:Value} (hr:Rw I A t x=some v) (hu:x.Rel β u):∃ y,(Instr.loadAt t u).run P w=.ok y w∧v.Rel β y:=by
 unfold Rw at hr
 split at hr
 ·rename_i id off
  obtain ⟨ci,hci,hr⟩:=aC hr
  obtain ⟨l,hl,hr⟩:=aC hr
  have ok:=hI t ci hci
  obtain ⟨b,o,n,hb,rfl⟩:=hu
  obtain ⟨b',o',n',vs,hb',_,hlen,hrel,hcell,_⟩:=zZ h hl
  rw [hb] at hb'
  simp only [aA,aB] at hb'
  obtain ⟨rfl,rfl,rfl⟩:=hb'
  have hvl:vs.length=l.length:=hrel.length.symm
  split at hr
  ·rename_i ha
   rw [ha] at hlen
   simp only [cnd] at hlen
   simp only [aA] at hr
   subst hr
   refine ⟨.agg vs.toArray,?_,vs,rfl,hrel⟩
   simp only [Instr.loadAt,Instr.sureAddr,loadVar,Sem.run_bind,Sem.run_pure,Result.andThen_ok,ok.isAgg,ha,if_true,ok.sizeOf]
   rw [show ci.size=vs.length by rw [hvl,hlen],Jv hcell]
   rfl
  ·rename_i y ha
   obtain ⟨h1,hr⟩:=aM hr
   simp only [aA] at hr
   subst hr
   obtain ⟨x,xs,rfl,hx,hxs⟩:=hrel
   refine ⟨x,?_,hx⟩
   have:=hcell 0 x rfl
   simp only [Nat.add_zero] at this
   simp [Instr.loadAt,Instr.sureAddr,loadVar,Sem.run_bind,ok.isAgg,ha,run_load,this]
  ·cases hr
 ·cases hr
theorem sQ (b:Nat):∀ (vs:List Value) (o:Nat) (w:World),(w.setCells b o vs).heap.size=w.heap.size∧(∀ k,k ≠ b->(w.setCells b o vs).heap[k]?=w.heap[k]?) ∧
  (w.setCells b o vs).os=w.os∧(w.setCells b o vs).tape=w.tape∧(w.setCells b o vs).output=w.output ∧
  ∀ c e fz,w.heap[b]?=some (.cells c e fz)->∃ c',(w.setCells b o vs).heap[b]?=some (.cells c' e fz)∧c'.size=c.size∧∀ j,c'[j]?=if o <= j∧j < o+vs.length∧j < c.size then vs[j - o]? else c[j]?
 | [],o,w=>⟨rfl,fun _ _=>rfl,rfl,rfl,rfl,fun c e fz h=>⟨c,h,rfl,fun j=>by simp; omega⟩⟩
 | v :: vs,o,w=>by
  obtain ⟨h1,h2,h3,h4,h5,h6⟩:=sQ b vs (o+1) (w.setCell ⟨b,o,none⟩ v)
  simp only [World.setCells]
  have hsz:(w.setCell ⟨b,o,none⟩ v).heap.size=w.heap.size:=by simp [World.setCell]
  have hk:∀ k,k ≠ b->(w.setCell ⟨b,o,none⟩ v).heap[k]?=w.heap[k]?:=fun k hk=>by
   unfold World.setCell
   rw [Array.getElem?_modify,if_neg (fun e=>hk e.symm)]
  refine ⟨h1.trans hsz,fun k hne=>(h2 k hne).trans (hk k hne),h3,h4,h5,fun c e fz h=>?_⟩
  have hb:(w.setCell ⟨b,o,none⟩ v).heap[b]?=some (.cells (c.setIfInBounds o v) e fz):=by
   unfold World.setCell
   rw [Array.getElem?_modify,if_pos rfl,h]
   rfl
  obtain ⟨c',k1,k2,k3⟩:=h6 _ _ _ hb
  refine ⟨c',k1,by rw [k2]; simp,fun j=>?_⟩
  rw [k3 j,Array.getElem?_setIfInBounds]
  simp only [Array.size_setIfInBounds,List.length_cons]
  by_cases hj:j=o
  ·subst hj
   rw [if_neg (by omega),if_pos rfl]
   by_cases hlt:j < c.size
   ·rw [if_pos hlt,if_pos (by omega)]; simp
   ·rw [if_neg hlt,if_neg (by omega),Array.getElem?_eq_none (by omega)]
  ·by_cases hin:o+1 <= j∧j < o+1+vs.length∧j < c.size
   ·rw [if_pos hin,if_pos (by omega)]
    have:j - o=(j - (o+1))+1:=by omega
    rw [this,List.getElem?_cons_succ]
   ·rw [if_neg hin,if_neg (c:=o=j) (fun e=>hj e.symm),if_neg (by omega)]
theorem Pg (h:aX lo β A w) {id off:Nat} {new:List AV} {A':W} (hr:aWr lo A id off new=some A') {vs:List Value} (hv:AV.aN β new vs) :
  ∃ b o m,β id=some (b,o,m)∧(∀ j,j < vs.length->(w.cell? ⟨b,o+off+j,none⟩).isSome=true)∧(∀ j,j < vs.length->w.frozen? ⟨b,o+off+j,none⟩=false) ∧
   Go lo β A w β A' (w.setCells b (o+off) vs):=by
 unfold aWr at hr
 split at hr
 ·rename_i cs cls shr hB
  obtain ⟨hc,hr⟩:=aM hr
  obtain ⟨cs',hs,hr⟩:=aC hr
  simp only [aA] at hr
  subst hr
  rw [aF,Nat.ble_eq,Nat.blt_eq] at hc
  obtain ⟨b,o,m,hb,hlt,c,e,fz,h1,⟨hm,hk⟩,hfz,h3⟩:=h.blk id _ hB
  obtain ⟨rfl,hfit⟩:=wC hs
  have hl:=hv.length
  have hin:∀ j,j < vs.length->o+off+j < c.size:=fun j hj=>by
   have:off+j < cs.length:=by omega
   obtain ⟨x,hx,_⟩:=h3 (off+j) cs[off+j] (by rw [List.getElem?_eq_getElem this])
   have:=(Array.getElem?_eq_some_iff.1 hx).1
   omega
  refine ⟨b,o,m,hb,fun j hj=>?_,fun j hj=>?_,?_⟩
  ·simp only [World.cell?,h1]
   simp [hin j hj]
  ·simp only [World.frozen?,h1]
   have:=hfz rfl _ (hin j hj)
   simp only [Bool.and_eq_false_iff,decide_eq_false_iff_not]
   by_cases h7:fz.1 <= o+off+j
   ·right; intro h8; exact this ⟨h7,h8⟩
   ·exact .inl h7
  ·obtain ⟨g1,g2,g3,g4,g5,g6⟩:=sQ b vs (o+off) w
   obtain ⟨c',k1,k2,k3⟩:=g6 c e fz h1
   refine Go.turn h hB hc.1 hc.2 hb g1 g2 ?_ g3 g4 g5
   refine ⟨c',e,fz,k1,⟨k2.trans hm,hk⟩,fun _ i hi=>hfz rfl i (by rw [<- k2]; exact hi),fun i v hiv=>?_⟩
   rw [k3]
   rcases aY i off with hi | hi
   ·rw [dG (by simp; omega),List.getElem?_take,if_pos hi] at hiv
    rw [if_neg (by omega)]
    exact h3 i v hiv
   ·rw [List.getElem?_append_right (by simp; omega)] at hiv
    have hto:(cs.take off).length=off:=by simp; omega
    rw [hto] at hiv
    rcases aY (i - off) new.length with hi2 | hi2
    ·rw [dG hi2] at hiv
     obtain ⟨x,hx,hrel⟩:=hv.get hiv
     have:=hin (i - off) (by omega)
     rw [if_pos (by omega)]
     refine ⟨x,?_,hrel⟩
     rw [show o+i - (o+off)=i - off by omega]
     exact hx
    ·rw [List.getElem?_append_right hi2,List.getElem?_drop] at hiv
     rw [show off+new.length+(i - off - new.length)=i by omega] at hiv
     rw [if_neg (by omega)]
     exact h3 i v hiv
 ·rename_i t cs hB
  obtain ⟨hc,hr⟩:=aM hr
  obtain ⟨cs',hs,hr⟩:=aC hr
  simp only [aA] at hr
  subst hr
  rw [aF,Nat.ble_eq,Nat.blt_eq] at hc
  obtain ⟨b,o,m,hb,hlt,rfl,c,h1,hm,hz,h3⟩:=h.blk id _ hB
  obtain ⟨rfl,hfit⟩:=wC hs
  have hl:=hv.length
  have hin:∀ j,j < vs.length->0+off+j < c.size:=fun j hj=>by omega
  refine ⟨b,0,m,hb,fun j hj=>?_,fun j hj=>?_,?_⟩
  ·simp only [World.cell?,h1]
   have:=hin j hj
   rw [Nat.zero_add] at this
   simp [this]
  ·simp only [World.frozen?,h1]
   simp
  ·obtain ⟨g1,g2,g3,g4,g5,g6⟩:=sQ b vs (0+off) w
   obtain ⟨c',k1,k2,k3⟩:=g6 c t (0,0) h1
   refine Go.obj h hB (fun _ h=>h) hc.1 hc.2 hb g1 g2 ?_ g3 g4 g5
   refine ⟨rfl,c',k1,k2.trans hm,by rw [k2,hz]; simp; omega,fun i v hiv=>?_⟩
   rw [k3]
   rcases aY i off with hi | hi
   ·rw [dG (by simp; omega),List.getElem?_take,if_pos hi] at hiv
    rw [if_neg (by omega)]
    exact h3 i v hiv
   ·rw [List.getElem?_append_right (by simp; omega)] at hiv
    have hto:(cs.take off).length=off:=by simp; omega
    rw [hto] at hiv
    rcases aY (i - off) new.length with hi2 | hi2
    ·rw [dG hi2] at hiv
     obtain ⟨x,hx,hrel⟩:=hv.get hiv
     have:=hin (i - off) (by omega)
     rw [if_pos (by omega)]
     refine ⟨x,?_,hrel⟩
     rw [show i - (0+off)=i - off by omega]
     exact hx
    ·rw [List.getElem?_append_right hi2,List.getElem?_drop] at hiv
     rw [show off+new.length+(i - off - new.length)=i by omega] at hiv
     rw [if_neg (by omega)]
     exact h3 i v hiv
 ·cases hr
theorem Bh {β:Bt} {x:AV} {u:Value} (h:x.Rel β u) (h1:jH x.cells=true):AV.aN β x.cells u.cells.toList:=by
 have key:∀ y:AV,y.one=true->y.Rel β u->AV.aN β [y] u.cells.toList:=fun y h2 h=>by
  have h3:=zFm h2 h
  have h4:u.cells=#[u]:=by cases u <;> first | rfl | (simp [Value.oneCell'] at h3)
  rw [h4]
  exact ⟨u,[],rfl,h,rfl⟩
 cases x
 case ag l=>obtain ⟨xs,rfl,hr⟩:=h; simpa [AV.cells,Value.cells] using hr
 case tu l=>simp [AV.cells,jH,AV.one] at h1
 all_goals exact key _ rfl h
theorem zEk {P:Program} {I:T CI} (hI:TOK P I) (h:aX lo β A w) {t:TypeId} {x y:AV} {u v:Value} {A':W} (hr:zBm lo I A t x y=some A') (hu:x.Rel β u) (hv:y.Rel β v) :
  ∃ w',(Instr.storeAt t u v).run P w=.ok () w'∧Go lo β A w β A' w':=by
 unfold zBm at hr
 split at hr
 ·rename_i id off
  obtain ⟨ci,hci,hr⟩:=aC hr
  obtain ⟨hc,hr⟩:=aM hr
  rw [aF] at hc
  have ok:=hI t ci hci
  have hcr:=Bh hv hc.2
  obtain ⟨b,o,n,hb,hcell,hfz,hgo⟩:=Pg h hr hcr
  obtain ⟨b',o',n',hb',rfl⟩:=hu
  rw [hb] at hb'
  simp only [aA,aB] at hb'
  obtain ⟨rfl,rfl,rfl⟩:=hb'
  refine ⟨_,?_,hgo⟩
  have hsz:v.cells.size=ci.size:=by
   rw [<- Array.length_toList,<- hcr.length,<- len_eq]
   exact aG hc.1
  have hst:=run_storeCells_cells (P:=P) b (o+off) v.cells.toList 0 w (by simpa using hcell) (by simpa using hfz) (zBv hc.2 hcr)
  simp only [Nat.add_zero] at hst
  simp [Instr.storeAt,Instr.sureAddr,storeVar,ok.sizeOf,hsz,hst]
 ·cases hr
theorem iE (w:World) (o:Obj):(w.alloc o).heap.size=w.heap.size+1∧(∀ b,b < w.heap.size->(w.alloc o).heap[b]?=w.heap[b]?)∧(w.alloc o).heap[w.heap.size]?=some o:=by
 have e:(w.alloc o).heap=w.heap.push o:=rfl
 rw [e]
 exact ⟨by simp,fun b hb=>by rw [Array.getElem?_push,if_neg (Nat.ne_of_lt hb)],by simp⟩
theorem qF (h:aX lo β A w) {B:Blk} {A':W} (hr:rT A B=some A') {w':World} {n:Nat} (hs:w'.heap.size=w.heap.size+1) (ho:∀ b,b < w.heap.size->w'.heap[b]?=w.heap[b]?)
  (hB:B.Rel (upd β A.nx (w.heap.size,0,n)) w'.heap w.heap.size 0 n) (h1:w'.os=w.os) (h2:w'.tape=w.tape) (h3:w'.output=w.output) :
  Go lo β A w (upd β A.nx (w.heap.size,0,n)) A' w':=by
 unfold rT at hr
 obtain ⟨hc,hr⟩:=aM hr
 rw [eD] at hr
 simp only [aA] at hr
 subst hr
 rw [Nat.blt_eq] at hc
 exact Go.new h hc hs ho hB h1 h2 h3
theorem Ga {B:Blk} {A':W} (hr:rT A B=some A'):A.nx < big:=by
 unfold rT at hr
 obtain ⟨hc,_⟩:=aM hr
 rwa [Nat.blt_eq] at hc
theorem Gb (h:aX lo β A w) {cs:List AV} {A':W} (hr:sO A cs=some A') {w':World} {c:Array Value} {e:TypeId} {fz:Nat × Nat} (hs:w'.heap.size=w.heap.size+1) (ho:∀ b,b < w.heap.size->w'.heap[b]?=w.heap[b]?)
  (hc:w'.heap[w.heap.size]?=some (.cells c e fz)) (hfz:∀ i,i < c.size->¬ (fz.1 <= i∧i < fz.2)) {vs rest:List Value} (hcv:c.toList=vs++rest) (hv:AV.aN β cs vs) (h1:w'.os=w.os) (h2:w'.tape=w.tape) (h3:w'.output=w.output) :
  Go lo β A w (upd β A.nx (w.heap.size,0,c.size)) A' w':=by
 refine qF h hr hs ho ⟨c,e,fz,hc,⟨rfl,Pf (Ga hr)⟩,fun _=>hfz,fun i v hi=>?_⟩ h1 h2 h3
 obtain ⟨x,hx,hrel⟩:=hv.get hi
 refine ⟨x,?_,hrel.mono (kS h _)⟩
 rw [Nat.zero_add,<- Array.getElem?_toList,hcv,dG (aS.1 hx).1]
 exact hx
theorem Si (h:aX lo β A w) {e:TypeId} {cs:List AV} {A':W} (hr:yN A e cs=some A') {w':World} {c:Array Value} {fz:Nat × Nat} (hs:w'.heap.size=w.heap.size+1) (ho:∀ b,b < w.heap.size->w'.heap[b]?=w.heap[b]?)
  (hc:w'.heap[w.heap.size]?=some (.cells c e fz)) (hfz:∀ i,i < c.size->¬ (fz.1 <= i∧i < fz.2)) {vs rest:List Value} (hcv:c.toList=vs++rest) (hv:AV.aN β cs vs) (h1:w'.os=w.os) (h2:w'.tape=w.tape) (h3:w'.output=w.output) :
  Go lo β A w (upd β A.nx (w.heap.size,0,c.size)) A' w':=by
 unfold yN at hr
 rw [eD] at hr
 refine qF h hr hs ho ⟨c,e,fz,hc,⟨rfl,zFn (Ga hr)⟩,fun _=>hfz,fun i v hi=>?_⟩ h1 h2 h3
 obtain ⟨x,hx,hrel⟩:=hv.get hi
 refine ⟨x,?_,hrel.mono (kS h _)⟩
 rw [Nat.zero_add,<- Array.getElem?_toList,hcv,dG (aS.1 hx).1]
 exact hx
theorem wD (h:aX lo β A w) {cs:List AV} {A':W} (hr:sO A cs=some A') (c:Array Value) (e:TypeId) (hv:AV.aN β cs c.toList) :
  Go lo β A w (upd β A.nx (w.heap.size,0,c.size)) A' (w.alloc (.cells c e)):=by
 obtain ⟨h1,h2,h3⟩:=iE w (.cells c e)
 exact Gb h hr h1 h2 h3 (fun i _ h=>by omega) (List.append_nil _).symm hv rfl rfl rfl
end
end Go.Ce
namespace Go.Ce
section
variable {P:Program} {lo:Nat} {β:Bt} {A:W} {w:World} {I:T CI}
theorem Gc {x:AV} {u v:Value} (h:Ux x=some u) (hr:x.Rel β v):v=u:=by
 cases x <;> simp only [Ux,aA,reduceCtorEq] at h <;> subst h <;> exact hr
theorem Gd {v:Value} {a:AV} (h:Jr v=some a):a.Rel β v∧a.one=true:=by
 unfold Jr at h
 split at h <;> simp only [zIt,zXl,eD,aA,reduceCtorEq] at h <;> subst h <;> simp [AV.Rel,AV.one]
theorem ofNat_toNat (l:List UInt8):(l.map UInt8.toNat).map UInt8.ofNat=l:=by
 induction l with
 | nil=>rfl
 | cons a l ih=>simp [ih]
theorem Jw:∀ (x y:List UInt8),vE (x.map UInt8.toNat) (y.map UInt8.toNat)=(x == y)
 | [],[]=>rfl
 | [],_ :: _=>rfl
 | _ :: _,[]=>rfl
 | a :: x,b :: y=>by
  simp only [List.map_cons,vE]
  rw [Jw x y]
  by_cases h:a=b
  ·subst h
   have:Nat.beq a.toNat a.toNat=true:=Nat.beq_refl _
   rw [this]
   simp [cnd]
  ·have:Nat.beq a.toNat b.toNat=false:=by
    cases hb:Nat.beq a.toNat b.toNat with
    | false=>rfl
    | true=>exact absurd (UInt8.toNat_inj.1 (aG hb)) h
   rw [this]
   simp [cnd,h]
theorem zBx:∀ (x y:List UInt8),ltL (x.map UInt8.toNat) (y.map UInt8.toNat)=Op.bytesLess x y
 | x,[]=>by cases x <;> simp [ltL,Op.bytesLess]
 | [],_ :: _=>rfl
 | a :: x,b :: y=>by
  simp only [List.map_cons,ltL,Op.bytesLess]
  rw [zBx x y]
  have h1:Nat.blt a.toNat b.toNat=decide (a < b):=by
   rw [Bool.eq_iff_iff,Nat.blt_eq,decide_eq_true_eq]; rfl
  have h2:Nat.beq a.toNat b.toNat=(a == b):=by
   rw [Bool.eq_iff_iff,beq_iff_eq]
   constructor
   ·intro h; exact UInt8.toNat_inj.1 (aG h)
   ·rintro rfl; exact Nat.beq_refl _
  rw [h1,h2]
  cases decide (a < b) <;> cases (a == b) <;> simp [cnd]
theorem zMi (b:ByteArray):b.toList=b.data.toList:=by
 have:=Dec.toList_mk b.data.toList
 simpa using this
theorem zJb {op:BinOp} {x y:List Nat} {v:AV} {a b:ByteArray} (h:zIv op x y=some v) (ha:a.data.toList.map UInt8.toNat=x) (hb:b.data.toList.map UInt8.toNat=y):∃ r,(Op.stringOp op a b).run P w=.ok r w∧v.Rel β r:=by
 subst ha hb
 have e1:=Jw a.data.toList b.data.toList
 have e2:=zBx a.data.toList b.data.toList
 cases op <;> simp only [zIv,zIt,Zh,aA,reduceCtorEq] at h
 case add =>
  obtain ⟨hc,h⟩:=aM h
  simp only [aA] at h
  subst h
  rw [len_eq,len_eq,Nat.ble_eq] at hc
  simp only [List.length_map,Array.length_toList] at hc
  refine ⟨.string (a++b),?_,a++b,rfl,?_⟩
  ·have hsz:¬ (((a.size+b.size:Nat):Int) > IntKind.i64.max):=by
    have h1:a.size=a.data.size:=rfl
    have h2:b.size=b.data.size:=rfl
    have h3:IntKind.i64.max=9223372036854775807:=rfl
    omega
   simp only [Op.stringOp,hsz,if_false,Sem.run_pure]
  ·rw [ByteArray.data_append]; simp
 all_goals (subst h; refine ⟨_,by simp only [Op.stringOp,Sem.run_pure]; rfl,?_⟩; simp only [AV.Rel,zMi,e1,e2])
theorem zEl (d:Nat) {t:TypeId} {ci:CI} {x y:AV} {u v:Value} {a b:Bool} (ok:gH P t ci) (hx:isNil ci.k x=some a) (hy:isNil ci.k y=some b) (hab:a=true∨b=true) (hu:x.Rel β u) (hv:y.Rel β v) :
  (Op.equalIn (d+1) t u v).run P w=.ok (a && b) w:=by
 unfold isNil at hx hy
 cases hk:ci.k <;> rw [hk] at hx hy <;> simp only [reduceCtorEq] at hx hy
 case ptr e =>
  have ht:=ok.ptr hk
  cases x <;> simp only [aA,reduceCtorEq] at hx <;> cases y <;> simp only [aA,reduceCtorEq] at hy <;> subst hx hy <;> simp only [AV.Rel] at hu hv
  ·subst hu hv; simp [Op.equalIn,run_underlying ht]
  ·obtain ⟨_,_,_,_,rfl⟩:=hv; subst hu; simp [Op.equalIn,run_underlying ht]
  ·obtain ⟨_,_,_,_,rfl⟩:=hu; subst hv; simp [Op.equalIn,run_underlying ht]
  ·simp at hab
 case slice e =>
  have ht:=ok.slice hk
  cases x <;> simp only [aA,reduceCtorEq] at hx <;> cases y <;> simp only [aA,reduceCtorEq] at hy <;> subst hx hy <;> simp only [AV.Rel] at hu hv <;> try (simp at hab; done)
  ·subst hu hv; simp [Op.equalIn,run_underlying ht]
  ·obtain ⟨_,_,_,_,_,rfl,_⟩:=hv; subst hu; simp [Op.equalIn,run_underlying ht]
  ·obtain ⟨_,_,rfl,_⟩:=hv; subst hu; simp [Op.equalIn,run_underlying ht]
  ·obtain ⟨_,_,_,_,_,rfl,_⟩:=hu; subst hv; simp [Op.equalIn,run_underlying ht]
  ·obtain ⟨_,_,rfl,_⟩:=hu; subst hv; simp [Op.equalIn,run_underlying ht]
 case func =>
  obtain ⟨_,_,_,ht⟩:=ok.func hk
  cases x <;> simp only [aA,reduceCtorEq] at hx <;> cases y <;> simp only [aA,reduceCtorEq] at hy <;> subst hx hy <;> simp only [AV.Rel] at hu hv
  ·subst hu hv; simp [Op.equalIn,run_underlying ht]
  ·obtain ⟨_,_,rfl,_⟩:=hv; subst hu; simp [Op.equalIn,run_underlying ht]
  ·obtain ⟨_,_,rfl,_⟩:=hu; subst hv; simp [Op.equalIn,run_underlying ht]
  ·simp at hab
 case iface =>
  obtain ⟨_,ht⟩:=ok.iface hk
  cases x <;> simp only [aA,reduceCtorEq] at hx <;> cases y <;> simp only [aA,reduceCtorEq] at hy <;> subst hx hy <;> simp only [AV.Rel] at hu hv
  ·subst hu hv; simp [Op.equalIn,run_underlying ht]
  ·obtain ⟨_,rfl,_⟩:=hv; subst hu; simp [Op.equalIn,run_underlying ht]
  ·obtain ⟨_,rfl,_⟩:=hu; subst hv; simp [Op.equalIn,run_underlying ht]
  ·simp at hab
 case map k e =>
  have ht:=ok.map hk
  cases x <;> simp only [aA,reduceCtorEq] at hx <;> cases y <;> simp only [aA,reduceCtorEq] at hy <;> subst hx hy <;> simp only [AV.Rel] at hu hv
  ·subst hu hv; simp [Op.equalIn,run_underlying ht]
  ·obtain ⟨_,_,_,rfl⟩:=hv; subst hu; simp [Op.equalIn,run_underlying ht]
  ·obtain ⟨_,_,_,rfl⟩:=hu; subst hv; simp [Op.equalIn,run_underlying ht]
  ·simp at hab
theorem zMj {t:TypeId} {ci:CI} {x y:AV} {u v:Value} {a b:Bool} (ok:gH P t ci) (hx:isNil ci.k x=some a) (hy:isNil ci.k y=some b) (hab:a=true∨b=true) (hu:x.Rel β u) (hv:y.Rel β v) :
  (Op.equal t u v).run P w=.ok (a && b) w:=zEl 9999 ok hx hy hab hu hv
theorem Xt {op:BinOp} {b:Bool} {v:AV} (h:Js op b=some v):(op=.eql∧v=.bo b)∨(op=.neq∧v=.bo (!b)):=by
 cases op <;> simp only [Js,zIt,aA,reduceCtorEq] at h
 ·exact .inl ⟨rfl,h.symm⟩
 ·exact .inr ⟨rfl,h.symm⟩
theorem zMk {op:BinOp} {b:Bool} {v:AV} {t:TypeId} {x y:Operand} {u z:Value} (h:Js op b=some v) (hg:(eqGuard op t x y u z).run P w=.ok () w) (he:(Op.equal t u z).run P w=.ok b w)
  (hb:(binOp .eql t u z:Sem Value)=(do pure (.bool (<- Op.equal t u z)))∧(binOp .neq t u z:Sem Value)=(do pure (.bool (!(<- Op.equal t u z))))) :
  ∃ r,((do eqGuard op t x y u z; binOp op t u z:Sem Value)).run P w=.ok r w∧v.Rel β r:=by
 rcases Xt h with ⟨rfl,rfl⟩ | ⟨rfl,rfl⟩
 ·exact ⟨.bool b,by rw [Sem.run_bind,hg,Result.andThen_ok,hb.1]; simp [he],rfl⟩
 ·exact ⟨.bool (!b),by rw [Sem.run_bind,hg,Result.andThen_ok,hb.2]; simp [he],rfl⟩
theorem zMl {x:Operand} (h:wK x=true):∃ v,x=.const v:=by
 unfold wK at h
 split at h <;> first | exact ⟨_,rfl⟩ | cases h
theorem Jy {w:World} {N:Nat->Nat->Prop}:∀ {t:Dec.Ty} {l rest:List AV} {x:t.den} {vs:List Value},dT t l=some (x,rest)->AV.aN β l vs->∃ v1 v2,vs=v1++v2∧t.Rel w N x v1∧AV.aN β rest v2
 | .unit,l,rest,x,vs,h,hr=>by
  simp only [dT,aA,aB] at h
  obtain ⟨_,rfl⟩:=h
  exact ⟨[],vs,rfl,rfl,hr⟩
 | .bool,[],_,_,_,h,_=>by simp [dT] at h
 | .bool,a :: l,rest,x,vs,h,hr=>by
  cases a <;> simp only [dT,reduceCtorEq,aA,aB] at h
  obtain ⟨rfl,rfl⟩:=h
  obtain ⟨y,ys,rfl,h1,h2⟩:=hr
  simp only [AV.Rel] at h1
  subst h1
  exact ⟨[_],ys,rfl,rfl,h2⟩
 | .int k,[],_,_,_,h,_=>by simp [dT] at h
 | .int k,a :: l,rest,x,vs,h,hr=>by
  cases a <;> simp only [dT,reduceCtorEq] at h
  obtain ⟨hk,h⟩:=aM h
  simp only [aA,aB] at h
  obtain ⟨rfl,rfl⟩:=h
  have hk:=of_decide_eq_true hk
  subst hk
  obtain ⟨y,ys,rfl,h1,h2⟩:=hr
  simp only [AV.Rel] at h1
  subst h1
  exact ⟨[_],ys,rfl,rfl,h2⟩
 | .str,[],_,_,_,h,_=>by simp [dT] at h
 | .str,a :: l,rest,x,vs,h,hr=>by
  cases a <;> simp only [dT,reduceCtorEq,aA,aB] at h
  obtain ⟨rfl,rfl⟩:=h
  obtain ⟨y,ys,rfl,h1,h2⟩:=hr
  obtain ⟨ba,rfl,rfl⟩:=h1
  refine ⟨[_],ys,rfl,?_,h2⟩
  simp only [Dec.Ty.Rel,ofNat_toNat]
 | .pair a b,l,rest,x,vs,h,hr=>by
  simp only [dT] at h
  split at h
  ·rename_i y l1 h1
   split at h
   ·rename_i z l2 h2
    simp only [aA,aB] at h
    obtain ⟨rfl,rfl⟩:=h
    obtain ⟨v1,v2,rfl,k1,k2⟩:=Jy (w:=w) (N:=N) h1 hr
    obtain ⟨v3,v4,rfl,k3,k4⟩:=Jy (w:=w) (N:=N) h2 k2
    exact ⟨v1++v3,v4,(List.append_assoc ..).symm,⟨v1,v3,rfl,k1,k3⟩,k4⟩
   ·cases h
  ·cases h
 | .arr n a,l,rest,x,vs,h,hr=>by
  simp only [dT] at h
  have key:∀ (n:Nat) (l rest:List AV) (xs:List a.den) (vs:List Value),dN (dT a) n l=some (xs,rest)->AV.aN β l vs->∃ v1 v2,vs=v1++v2∧(Dec.Ty.arr n a).Rel w N xs v1∧AV.aN β rest v2:=by
   intro n
   induction n with
   | zero =>
    intro l rest xs vs h hr
    simp only [dN,aA,aB] at h
    obtain ⟨rfl,rfl⟩:=h
    exact ⟨[],vs,rfl,⟨rfl,[],rfl,trivial⟩,hr⟩
   | succ n ih =>
    intro l rest xs vs h hr
    simp only [dN] at h
    split at h
    ·rename_i y l1 h1
     split at h
     ·rename_i ys l2 h2
      simp only [aA,aB] at h
      obtain ⟨rfl,rfl⟩:=h
      obtain ⟨v1,v2,rfl,k1,k2⟩:=Jy (w:=w) (N:=N) h1 hr
      obtain ⟨v3,v4,rfl,⟨k3,css,rfl,k5⟩,k4⟩:=ih _ _ _ _ h2 k2
      exact ⟨v1++css.flatten,v4,(List.append_assoc ..).symm,⟨by simp [k3],v1 :: css,rfl,⟨k1,k5⟩⟩,k4⟩
     ·cases h
    ·cases h
  exact key n l rest x vs h hr
 | .err,_,_,_,_,h,_=>by simp [dT] at h
 | .opq,_,_,_,_,h,_=>by simp [dT] at h
 | .slice _,_,_,_,_,h,_=>by simp [dT] at h
theorem zMm {t:TypeId} {ci:CI} {ty:Dec.Ty} {a b:List AV} {r:Bool} {us vs:List Value} (ok:gH P t ci) (hty:ci.eqs=some ty) (h:zPs ty a b=some r) (hu:AV.aN β a us) (hv:AV.aN β b vs) :
  (Op.equal t (.agg us.toArray) (.agg vs.toArray)).run P w=.ok r w∧P.eqGuardType P.depth t=false:=by
 have he:=ok.eqs
 rw [hty] at he
 unfold zPp cnd at he
 split at he
 ·rename_i hc
  split at he
  ·rename_i ty' hty'
   split at he
   ·rename_i hcmp
    simp only [aA] at he
    subst he
    simp only [aF,Bool.not_eq_true'] at hc
    refine ⟨?_,hc.2.1⟩
    unfold zPs at h
    split at h
    ·rename_i x y hx hy
     simp only [aA] at h
     subst h
     obtain ⟨v1,v2,rfl,h1,h2⟩:=Jy (w:=w) (N:=fun _ _=>False) hx hu
     obtain ⟨v3,v4,rfl,h3,h4⟩:=Jy (w:=w) (N:=fun _ _=>False) hy hv
     simp only [AV.aN] at h2 h4
     subst h2 h4
     rw [List.append_nil,List.append_nil]
     obtain ⟨d,hd,hdk⟩:=ok.und
     have hagg:ty'.isAgg=true:=by
      rw [Dec.Ee hty' hd hcmp]
      rw [<- hdk] at hc
      cases d <;> simp [CK.of,CK.isAgg] at hc <;> rfl
     have:=Dec.Aq (P:=P) (w:=w) (N:=fun _ _=>False) 12 t ty' x y v1 v3 Op.maxDepth (by simp [Op.maxDepth]) hty' hc.2.2 hcmp h1 h3
     simpa [Dec.valOf,hagg,Op.equal] using this
    ·cases h
   ·cases he
  ·cases he
 ·cases he
theorem zMn (hI:TOK P I) {op:BinOp} {t:TypeId} {xo yo:Operand} {x y v:AV} {u z:Value} (h:zPt P I op t xo yo x y=some v) (hu:x.Rel β u) (hz:y.Rel β z) :
  ∃ r,((do eqGuard op t xo yo u z; binOp op t u z:Sem Value)).run P w=.ok r w∧v.Rel β r:=by
 unfold zPt at h
 split at h
 ·rename_i a b
  obtain ⟨ba,rfl,h1⟩:=hu
  obtain ⟨bb,rfl,h2⟩:=hz
  have hg:∀ w:World,(eqGuard op t xo yo (.string ba) (.string bb)).run P w=.ok () w:=fun w=>by cases op <;> rfl
  obtain ⟨r,hr,hrel⟩:=zJb (P:=P) (w:=w) (β:=β) h h1 h2
  refine ⟨r,?_,hrel⟩
  rw [Sem.run_bind,hg,Result.andThen_ok]
  have:(binOp op t (.string ba) (.string bb):Sem Value)=Op.stringOp op ba bb:=by cases op <;> rfl
  rw [this,hr]
 ·rename_i a b
  obtain ⟨ti,hti,h⟩:=aC h
  obtain ⟨ty,hty,h⟩:=aC h
  obtain ⟨r,hr,h⟩:=aC h
  obtain ⟨us,rfl,h1⟩:=hu
  obtain ⟨vs,rfl,h2⟩:=hz
  obtain ⟨he,hgt⟩:=zMm (w:=w) (hI t ti hti) hty hr h1 h2
  exact zMk h (run_eqGuard_agg w op t xo yo _ _ hgt) he ⟨rfl,rfl⟩
 ·rename_i k m r j n
  split at h
  ·replace h:=aM h; obtain ⟨hc,h⟩:=h
   simp only [aF,decide_eq_true_eq,Nat.blt_eq] at hc
   obtain ⟨⟨⟨rfl,rfl⟩,rfl⟩,hm⟩:=hc
   simp only [aA] at h
   subst h
   obtain ⟨a,rfl,_,rfl⟩:=hu
   simp only [AV.Rel] at hz
   subst hz
   refine ⟨.int .i64 (Int.tmod (Int.ofNat a) (Int.ofNat m)),?_,rfl⟩
   have h0:¬ (Int.ofNat m)=0:=by simp; omega
   show (Op.intDiv .rem .i64 (Int.ofNat a) (Int.ofNat m)).run P w=_
   unfold Op.intDiv
   rw [if_neg h0]
   rfl
  ·cases h
 ·split at h
  ·rename_i a b ha hb
   obtain ⟨r,hr,h3⟩:=aC h
   have e1:=Gc ha hu
   have e2:=Gc hb hz
   subst e1 e2
   exact ⟨r,uJ hr w,(Gd h3).1⟩
  ·obtain ⟨ci,hci,h⟩:=aC h
   have ok:=hI t ci hci
   have nz:∀ (x:AV) (u:Value) (b:Bool),isNil ci.k x=some b->x.Rel β u->(∀ c,u ≠ .agg c)∧(b=false->u ≠ .nilIface)∧(∀ s,u ≠ .string s)∧(∀ k n,u ≠ .int k n)∧(∀ k n,u ≠ .float k n)∧(∀ k n m,u ≠ .complex k n m):=fun x u b hn hr=>by
    unfold isNil at hn
    split at hn <;> simp only [aA,reduceCtorEq] at hn <;> subst hn <;> simp only [AV.Rel] at hr
    all_goals first
     | (subst hr; simp)
     | (obtain ⟨_,_,_,_,_,rfl,_⟩:=hr; simp)
     | (obtain ⟨_,_,_,_,rfl⟩:=hr; simp)
     | (obtain ⟨_,_,_,rfl⟩:=hr; simp)
     | (obtain ⟨_,_,rfl,_⟩:=hr; simp)
     | (obtain ⟨_,rfl,_⟩:=hr; simp)
   have main:∀ a b,isNil ci.k x=some a->isNil ci.k y=some b->(a=true∨b=true)->(a=true->b=true->wK xo=true∨wK yo=true)->Js op (a && b)=some v ->
     ∃ r,((do eqGuard op t xo yo u z; binOp op t u z:Sem Value)).run P w=.ok r w∧v.Rel β r:=fun a b ha hb hab hc h=>by
    obtain ⟨n1,n2,n3,n4,n5,n6⟩:=nz x u a ha hu
    obtain ⟨m1,m2,m3,m4,m5,m6⟩:=nz y z b hb hz
    have he:=zMj (w:=w) ok ha hb hab hu hz
    refine zMk h ?_ he ?_
    ·have hop:op=.eql∨op=.neq:=by rcases Xt h with ⟨h,_⟩ | ⟨h,_⟩ <;> simp [h]
     by_cases hni:u=.nilIface∧z=.nilIface
     ·have h1:a=true:=by cases a with
       | true=>rfl
       | false=>exact absurd hni.1 (n2 rfl)
      have h2:b=true:=by cases b with
       | true=>rfl
       | false=>exact absurd hni.2 (m2 rfl)
      rw [hni.1,hni.2]
      rcases hc h1 h2 with hc | hc <;> obtain ⟨c,rfl⟩:=zMl hc <;> rcases hop with rfl | rfl <;> simp [eqGuard]
     ·have hun:=n1
      rcases hop with rfl | rfl <;> (unfold eqGuard; cases u <;> cases z <;> first | rfl | (exact absurd ⟨rfl,rfl⟩ hni) | (exact absurd rfl (n1 _)))
    ·constructor <;> cases u <;> cases z <;> first | rfl | simp_all
   split at h
   ·rename_i ha hb
    obtain ⟨hc,h⟩:=aM h
    exact main true true ha hb (.inl rfl) (fun _ _=>by simpa using hc) h
   ·rename_i ha hb
    exact main false true ha hb (.inr rfl) (fun h=>by cases h) h
   ·rename_i ha hb
    exact main true false ha hb (.inl rfl) (fun _ h=>by cases h) h
   ·cases h
theorem zPx {op:UnOp} {x v:AV} {u:Value} (h:aUn P op x=some v) (hu:x.Rel β u):∃ r,(Op.unary op u).run P w=.ok r w∧v.Rel β r:=by
 unfold aUn at h
 obtain ⟨a,ha,h2⟩:=aC h
 obtain ⟨r,hr,h3⟩:=aC h2
 have e:=Gc ha hu
 subst e
 exact ⟨r,uJ hr w,(Gd h3).1⟩
end
end Go.Ce
namespace Go.Ce
section
variable {P:Program} {lo:Nat} {β:Bt} {A:W} {w:World} {I:T CI}
def Gives (P:Program) (lo:Nat) (β:Bt) (A:W) (w:World) (s:Sem Value) (v:AV) (A':W):Prop :=
 ∃ y β' w',s.run P w=.ok y w'∧Go lo β A w β' A' w'∧v.Rel β' y
theorem Gives.pure (h:aX lo β A w) {s:Sem Value} {v:AV} (hs:∃ y,s.run P w=.ok y w∧v.Rel β y):Gives P lo β A w s v A:=by
 obtain ⟨y,hy,hv⟩:=hs
 exact ⟨y,β,w,hy,.refl h,hv⟩
theorem fC {x:AV} {n:Nat} {u:Value} (h:sP x=some n) (hu:x.Rel β u):∃ k,u=.int k n:=by
 unfold sP at h
 split at h
 ·simp only [aA] at h; subst h; exact ⟨_,hu⟩
 ·cases h
theorem Sj (l:List UInt8):AV.aN β (Dj (l.map UInt8.toNat)) (l.map fun b=>Value.int .u8 b.toNat):=by
 induction l with
 | nil=>rfl
 | cons a l ih=>exact ⟨_,_,rfl,rfl,ih⟩
theorem zJc (l:List Nat):jH (Dj l)=true:=by
 induction l with
 | nil=>rfl
 | cons a l ih=>simp [Dj,jH,ih,AV.one]
theorem Jz:∀ {cs:List AV} {l:List Nat} {vs:List Value},rE cs=some l->AV.aN β cs vs->vs=(l.map (fun n:Nat=>(n:Int))).map (Value.int .u8)∧∀ n ∈ l,n < 256
 | [],l,vs,h,hr=>by
  simp only [rE,aA] at h; subst h
  simp only [AV.aN] at hr; subst hr
  simp
 | a :: cs,l,vs,h,hr=>by
  unfold rE at h
  split at h
  ·rename_i he; cases he
  ·rename_i n r he
   simp only [aK] at he
   obtain ⟨rfl,rfl⟩:=he
   obtain ⟨hn,h⟩:=aM h
   obtain ⟨l',hl,h⟩:=aC h
   simp only [aA] at h
   subst h
   obtain ⟨x,xs,rfl,h1,h2⟩:=hr
   obtain ⟨rfl,h4⟩:=Jz hl h2
   simp only [AV.Rel] at h1
   subst h1
   rw [Nat.blt_eq] at hn
   exact ⟨by simp,fun m hm=>by cases hm with
    | head=>exact hn
    | tail _ hm=>exact h4 m hm⟩
  ·cases h
theorem Bj:∀ (l:List Nat) (r:ByteArray),(∀ n ∈ l,n < 256)->((l.map (fun n:Nat=>(n:Int))).foldl (fun r n=>r.push (UInt8.ofNat n.toNat)) r).data.toList.map UInt8.toNat=r.data.toList.map UInt8.toNat++l
 | [],r,_=>by simp
 | n :: l,r,h=>by
  simp only [List.map_cons,List.foldl_cons]
  rw [Bj l _ fun m hm=>h m (.tail _ hm)]
  have hn:=h n (.head _)
  simp [ByteArray.push,Nat.mod_eq_of_lt hn]
theorem zJd (hI:TOK P I) (hW:aX lo β A w) {src dst:TypeId} {x v:AV} {A':W} {u:Value} (h:zIw P I A src dst x=some (v,A')) (hu:x.Rel β u):Gives P lo β A w (convert src dst u) v A':=by
 unfold zIw at h
 split at h
 ·rename_i l
  obtain ⟨si,hsi,h⟩:=aC h
  obtain ⟨di,hdi,h⟩:=aC h
  have oks:=hI _ _ hsi
  have okd:=hI _ _ hdi
  obtain ⟨ba,rfl,hba⟩:=hu
  split at h
  ·rename_i hs hd
   simp only [aA,aB] at h
   obtain ⟨rfl,rfl⟩:=h
   exact Gives.pure hW ⟨.string ba,by simp [convert,run_underlying (oks.str hs),run_underlying (okd.str hd)],ba,rfl,hba⟩
  ·rename_i e hs hd
   obtain ⟨ei,hei,h⟩:=aC h
   split at h
   ·rename_i he
    obtain ⟨A1,hA,h⟩:=aC h
    rw [eD] at h
    obtain ⟨hmax,h⟩:=aM h
    simp only [aA,aB] at h
    obtain ⟨rfl,rfl⟩:=h
    subst hba
    have hsz:ba.size=ba.data.toList.length:=by rw [Array.length_toList]; rfl
    have hle:ba.size <= 1000000:=by rw [hsz]; rw [len_eq,Nat.ble_eq,List.length_map] at hmax; exact hmax
    have hge:=grownCap_ge w ba.size 0 e
    have hcm:=grownCap_le_maxLen w ba.size 0 e (by simp only [maxLen]; omega)
    have hcs:(Lib.bytesCells w e ba).size=grownCap w ba.size 0 e:=by
     have:ba.data.size=ba.size:=rfl
     simp only [Lib.bytesCells,Array.size_append,Array.size_map,Array.size_replicate,this]; omega
    refine ⟨_,_,_,Lib.run_convert_string_bytes w src dst e ba (oks.str hs) (okd.slice hd) ((hI _ _ hei).int he),
     Gb hW hA (Lib.bytesWorld_size w e ba) (Lib.bytesWorld_at_old w e ba) (Lib.bytesWorld_at_new w e ba) (fun i hi hh=>by simp only at hh; omega)
      (vs:=ba.data.toList.map fun b=>Value.int .u8 b.toNat) (rest:=List.replicate (grownCap w ba.size 0 e - ba.size) (.int .u8 0)) (by simp [Lib.bytesCells]) (Sj _) rfl rfl rfl,?_⟩
    have hlen:len (ba.data.toList.map UInt8.toNat)=ba.size:=by rw [len_eq,List.length_map,<- hsz]
    rw [hlen]
    exact ⟨w.heap.size,0,_,grownCap w ba.size 0 e,upd_same _ _ _,rfl,hge,hge,hcm,by rw [hcs]; omega⟩
   ·cases h
  ·cases h
 ·obtain ⟨si,hsi,h⟩:=aC h
  obtain ⟨di,hdi,h⟩:=aC h
  split at h
  ·rename_i e hs hd
   obtain ⟨ei,hei,h⟩:=aC h
   split at h
   ·rename_i he
    simp only [aA,aB] at h
    obtain ⟨rfl,rfl⟩:=h
    simp only [AV.Rel] at hu
    subst hu
    refine Gives.pure hW ⟨.string .empty,?_,.empty,rfl,rfl⟩
    rw [run_convert_bytes_string w src dst e none 0 0 ((hI _ _ hsi).slice hs) ((hI _ _ hei).int he) ((hI _ _ hdi).str hd)]
    rfl
   ·cases h
  ·cases h
 ·obtain ⟨si,hsi,h⟩:=aC h
  obtain ⟨di,hdi,h⟩:=aC h
  split at h
  ·rename_i e hs hd
   obtain ⟨ei,hei,h⟩:=aC h
   split at h
   ·rename_i he
    simp only [aA,aB] at h
    obtain ⟨rfl,rfl⟩:=h
    obtain ⟨a,c,rfl,_⟩:=hu
    refine Gives.pure hW ⟨.string .empty,?_,.empty,rfl,rfl⟩
    rw [run_convert_bytes_string w src dst e (some a) 0 c ((hI _ _ hsi).slice hs) ((hI _ _ hei).int he) ((hI _ _ hdi).str hd),run_bytesToString w a 0 c [] rfl]
    rfl
   ·cases h
  ·cases h
 ·rename_i id off n cap sz ex
  obtain ⟨si,hsi,h⟩:=aC h
  obtain ⟨di,hdi,h⟩:=aC h
  split at h
  ·rename_i e hs hd
   obtain ⟨ei,hei,h⟩:=aC h
   split at h
   ·rename_i he
    obtain ⟨cs,hcs,h⟩:=aC h
    obtain ⟨l,hl,h⟩:=aC h
    rw [Zh] at h
    simp only [aA,aB] at h
    obtain ⟨rfl,rfl⟩:=h
    obtain ⟨b,o,m,c,hb,rfl,_⟩:=hu
    obtain ⟨b',o',m',vs,hb',_,hlen,hrel,hcell,_⟩:=zZ hW hcs
    rw [hb] at hb'
    simp only [aA,aB] at hb'
    obtain ⟨rfl,rfl,rfl⟩:=hb'
    obtain ⟨hvs,hlt⟩:=Jz hl hrel
    have hvl:vs.length=n:=by rw [<- hrel.length,hlen]
    have hld:=Jv (P:=P) hcell
    rw [hvl,hvs] at hld
    have hrun:=run_bytesToString w _ n c _ hld
    have zJe:=run_convert_bytes_string w src dst e (some ⟨b,o+off,none⟩) n c ((hI _ _ hsi).slice hs) ((hI _ _ hei).int he) ((hI _ _ hdi).str hd)
    exact Gives.pure hW ⟨_,zJe.trans hrun,_,rfl,(Bj l ByteArray.empty hlt).trans (by rfl)⟩
   ·cases h
  ·cases h
 ·rename_i k m r
  obtain ⟨si,hsi,h⟩:=aC h
  obtain ⟨di,hdi,h⟩:=aC h
  split at h
  ·rename_i hd
   simp only [aA,aB] at h
   obtain ⟨rfl,rfl⟩:=h
   obtain ⟨n,rfl,hn,hr⟩:=hu
   obtain ⟨d0,hd0,_⟩:=(hI _ _ hsi).und
   have hw:IntKind.i64.wrap (Int.ofNat n)=Int.ofNat n:=by
    have h1:IntKind.i64.bits=64:=rfl
    have h2:IntKind.i64.signed=true:=rfl
    unfold IntKind.wrap
    rw [h1,h2]
    have h3:(Int.ofNat n) % (2 ^ 64:Int)=Int.ofNat n:=Int.emod_eq_of_lt (by simp) (by simp; omega)
    have h4:¬ (Int.ofNat n ≥ (2 ^ (64 - 1):Int)):=by simp; omega
    simp only [h3,h4,decide_false,Bool.and_false,Bool.false_eq_true,if_false]
   exact Gives.pure hW ⟨.int .i64 (Int.ofNat n),by simp only [convert,Sem.run_bind,run_underlying hd0,run_underlying ((hI _ _ hdi).int hd),Result.andThen_ok,Conv.intToInt,hw]; rfl,n,rfl,hn,hr⟩
  ·cases h
 ·obtain ⟨a,ha,h2⟩:=aC h
  obtain ⟨r,hr,h3⟩:=aC h2
  obtain ⟨y,hy,h4⟩:=aC h3
  simp only [aA,aB] at h4
  obtain ⟨rfl,rfl⟩:=h4
  have e:=Gc ha hu
  subst e
  exact Gives.pure hW ⟨r,uJ hr w,(Gd hy).1⟩
def mZ (β:Bt):Option AV->Option Value->Prop
 | none,v=>v=none
 | some a,v=>∃ x,v=some x∧a.Rel β x
theorem gL {isSlice:Bool} {n cap l h:Nat} {lo' hi:Option AV} {lv hv:Option Value} (h1:mY 0 lo'=some l) (h2:mY n hi=some h) (hl:mZ β lo' lv) (hh:mZ β hi hv) (h3:l <= h) (h4:h <= cap) :
  (Instr.sliceBounds isSlice n cap lv hv none).run P w=.ok (l,h,cap) w:=by
 have e1:∀ (x:Value) (k:Nat) (y:Nat) (code:BoundsCode),(∃ kk,x=.int kk (k:Int))->k <= y->(Instr.sliceBound x y code).run P w=.ok k w:=fun x k y code ⟨kk,hx⟩ hk=>by
  subst hx
  have a1:(0:Int) <= (k:Int):=by omega
  have a2:(k:Int) <= (y:Int):=by omega
  simp [Instr.sliceBound,asIntOf,a1,a2]
 cases lo' with
 | none =>
  simp only [mY,aA] at h1
  simp only [mZ] at hl
  subst h1 hl
  cases hi with
  | none =>
   simp only [mY,aA] at h2
   simp only [mZ] at hh
   subst h2 hh
   simp [Instr.sliceBounds]
  | some y =>
   simp only [mY] at h2
   obtain ⟨yv,rfl,hy⟩:=hh
   simp [Instr.sliceBounds,e1 yv h cap _ (fC h2 hy) h4]
 | some x =>
  simp only [mY] at h1
  obtain ⟨xv,rfl,hx⟩:=hl
  cases hi with
  | none =>
   simp only [mY,aA] at h2
   simp only [mZ] at hh
   subst h2 hh
   simp [Instr.sliceBounds,e1 xv l n _ (fC h1 hx) h3]
  | some y =>
   simp only [mY] at h2
   obtain ⟨yv,rfl,hy⟩:=hh
   simp [Instr.sliceBounds,e1 yv h cap _ (fC h2 hy) h4,e1 xv l h _ (fC h1 hx) h3]
theorem Cc {isSlice:Bool} {n cap l h m:Nat} {lo' hi:Option AV} {ma:AV} {lv hv:Option Value} {mv:Value} (h1:mY 0 lo'=some l) (h2:mY n hi=some h) (hne:hi ≠ none) (hm:sP ma=some m) (hl:mZ β lo' lv) (hh:mZ β hi hv) (hmr:ma.Rel β mv)
  (h3:l <= h) (h4:h <= m) (h5:m <= cap):(Instr.sliceBounds isSlice n cap lv hv (some mv)).run P w=.ok (l,h,m) w:=by
 have e1:∀ (x:Value) (k:Nat) (y:Nat) (code:BoundsCode),(∃ kk,x=.int kk (k:Int))->k <= y->(Instr.sliceBound x y code).run P w=.ok k w:=fun x k y code ⟨kk,hx⟩ hk=>by
  subst hx
  have a1:(0:Int) <= (k:Int):=by omega
  have a2:(k:Int) <= (y:Int):=by omega
  simp [Instr.sliceBound,asIntOf,a1,a2]
 cases hi with
 | none=>exact absurd rfl hne
 | some y =>
  simp only [mY] at h2
  obtain ⟨yv,rfl,hy⟩:=hh
  cases lo' with
  | none =>
   simp only [mY,aA] at h1
   simp only [mZ] at hl
   subst h1 hl
   simp [Instr.sliceBounds,e1 mv m cap _ (fC hm hmr) h5,e1 yv h m _ (fC h2 hy) h4]
  | some x =>
   simp only [mY] at h1
   obtain ⟨xv,rfl,hx⟩:=hl
   simp [Instr.sliceBounds,e1 mv m cap _ (fC hm hmr) h5,e1 yv h m _ (fC h2 hy) h4,e1 xv l h _ (fC h1 hx) h3]
end
end Go.Ce
namespace Go.Ce
section
variable {P:Program} {lo:Nat} {β:Bt} {A:W} {w:World} {I:T CI}
theorem zBy:∀ {n:Nat} {l r:List Nat},zY.tkN n l=some r->r=l.take n
 | 0,l,r,h=>by simp only [zY.tkN,aA] at h; subst h; simp
 | _+1,[],r,h=>by simp [zY.tkN] at h
 | n+1,a :: l,r,h=>by
  simp only [zY.tkN] at h
  split at h
  ·rename_i l' hl
   simp only [aA] at h
   subst h
   rw [zBy hl]; simp
  ·cases h
theorem zJ (ba:ByteArray):ba.size=ba.data.toList.length:=by rw [Array.length_toList]; rfl
theorem sG {β:Bt} {v:Option Value} (h:mZ β none v):v=none:=h
theorem zJf (b o:Nat) (m l:Nat):(if m=l then (⟨b,o,none⟩:Addr) else (⟨b,o,none⟩:Addr).add 0)=⟨b,o,none⟩:=by
 split
 ·rfl
 ·rw [Addr.add_lit]; rfl
theorem zEm (hI:TOK P I) (hW:aX lo β A w) {t:TypeId} {x v:AV} {lo' hi mx:Option AV} {u:Value} {lv hv mv:Option Value} (h:zY I A t x lo' hi mx=some v) (hu:x.Rel β u) (hl:mZ β lo' lv) (hh:mZ β hi hv) (hm:mZ β mx mv) :
  ∃ y,(Instr.sliceAt t u lv hv mv).run P w=.ok y w∧v.Rel β y:=by
 unfold zY at h
 replace h:=aM h; obtain ⟨hmx,h⟩:=h
 replace h:=aC h; obtain ⟨ti,hti,h⟩:=h
 replace h:=aC h; obtain ⟨l,hlo,h⟩:=h
 have ok:=hI _ _ hti
 split at h
 ·rename_i s hk
  have hut:=ok.str hk
  obtain ⟨ba,rfl,hba⟩:=hu
  split at h
  ·cases h
  ·replace h:=aC h; obtain ⟨h',hhi,h⟩:=h
   replace h:=aM h; obtain ⟨hc,h⟩:=h
   replace h:=aC h; obtain ⟨r,hr,h⟩:=h
   simp only [aA] at h
   subst h
   have:=sG hm
   subst this
   rw [aF,Nat.ble_eq,Nat.ble_eq] at hc
   have hsz:len s=ba.size:=by rw [len_eq,<- hba,List.length_map,zJ]
   rw [hsz] at hhi hc
   have hb:=gL (P:=P) (w:=w) (isSlice:=false) hlo hhi hl hh hc.1 hc.2
   refine ⟨.string (ba.extract l h'),by simp [Instr.sliceAt,Instr.slice,run_underlying hut,hb],ba.extract l h',rfl,?_⟩
   rw [zBy hr,wT,<- hba,ByteArray.data_extract,Array.toList_extract,List.extract_eq_take_drop,List.map_take,List.map_drop]
 ·rename_i e hk
  replace h:=aC h; obtain ⟨ei,Ph,h⟩:=h
  replace h:=aC h; obtain ⟨h',hhi,h⟩:=h
  replace h:=aC h; obtain ⟨m,hmm,h⟩:=h
  replace h:=aM h; obtain ⟨hc,h⟩:=h
  simp only [aA] at h
  subst h
  simp only [AV.Rel] at hu
  subst hu
  have hut:=ok.slice hk
  simp only [aF] at hc
  have z1:=aG hc.1.1
  have z2:=aG hc.1.2
  have z3:=aG hc.2
  subst z1 z2 z3
  have hei:=(hI _ _ Ph).sizeOf (w:=w)
  cases mx with
  | none =>
   have:=sG hm
   subst this
   have hb:=gL (P:=P) (w:=w) (isSlice:=true) (cap:=0) hlo hhi hl hh (aI _) (aI _)
   exact ⟨.slice none 0 0,by simp [Instr.sliceAt,Instr.slice,run_underlying hut,hb,hei],rfl⟩
  | some ma =>
   obtain ⟨mv',rfl,hmr⟩:=hm
   have hb:=Cc (P:=P) (w:=w) (isSlice:=true) (cap:=0) hlo hhi (by cases hi <;> simp [zIx] at hmx ⊢) hmm hl hh hmr (aI _) (aI _) (aI _)
   exact ⟨.slice none 0 0,by simp [Instr.sliceAt,Instr.slice,run_underlying hut,hb,hei],rfl⟩
 ·rename_i e z hk
  replace h:=aC h; obtain ⟨ei,Ph,h⟩:=h
  replace h:=aC h; obtain ⟨h',hhi,h⟩:=h
  replace h:=aM h; obtain ⟨hc,h⟩:=h
  rw [aF] at hc
  have z1:=aG hc.1
  have z2:=aG hc.2
  subst z1 z2
  have hut:=ok.slice hk
  have hei:=(hI _ _ Ph).sizeOf (w:=w)
  obtain ⟨a,c,rfl,hcm,hcz⟩:=hu
  cases mx with
  | none =>
   have:=sG hm
   subst this
   simp only [aA] at h
   subst h
   have hb:=gL (P:=P) (w:=w) (isSlice:=true) (cap:=c) hlo hhi hl hh (aI _) (Nat.zero_le _)
   exact ⟨.slice (some (if c=0 then a else a.add (0 * ei.size))) 0 c,by simp [Instr.sliceAt,Instr.slice,run_underlying hut,hb,hei]; split <;> rfl,_,c,rfl,hcm,hcz⟩
  | some ma =>
   obtain ⟨mv',rfl,hmr⟩:=hm
   simp only at h
   replace h:=aC h; obtain ⟨m,hmm,h⟩:=h
   replace h:=aM h; obtain ⟨hc2,h⟩:=h
   have z3:=aG hc2
   subst z3
   simp only [aA] at h
   subst h
   have hb:=Cc (P:=P) (w:=w) (isSlice:=true) (cap:=c) hlo hhi (by cases hi <;> simp [zIx] at hmx ⊢) hmm hl hh hmr (aI _) (aI _) (Nat.zero_le _)
   exact ⟨.slice (some a) 0 0,by simp [Instr.sliceAt,Instr.slice,run_underlying hut,hb,hei],a,0,rfl,by simp [maxLen],fun _=>rfl⟩
 ·rename_i e id off n c sz ex hk
  replace h:=aC h; obtain ⟨h',hhi,h⟩:=h
  replace h:=aC h; obtain ⟨ei,Ph,h⟩:=h
  replace h:=aM h; obtain ⟨hsz,h⟩:=h
  have hsz:=aG hsz
  have hut:=ok.slice hk
  have hei:=(hI _ _ Ph).sizeOf (w:=w)
  rw [hsz] at hei
  obtain ⟨b,o,N,C,hb,rfl,hcap,hnC,hCm,hfit⟩:=hu
  have hcC:c <= C:=by
   unfold Ez at hcap
   split at hcap <;> omega
  have hmax:∀ k,Nat.ble k (cnd (Nat.ble n c) c n)=true->k <= C:=fun k hk=>by
   rw [Nat.ble_eq] at hk
   unfold cnd at hk
   split at hk <;> omega
  have zRn:∀ m:Nat,l < m->(if m=l then (⟨b,o+off,none⟩:Addr) else (⟨b,o+off,none⟩:Addr).add (l * sz))=⟨b,o+(off+l * sz),none⟩:=fun m hm=>by
   rw [if_neg (by omega),Addr.add_lit,Nat.add_assoc]
  have hsub:∀ m:Nat,l <= m->m <= C->o+(off+l * sz)+(m - l) * sz <= N:=fun m h1 h2=>by
   have e1:(m - l) * sz+l * sz=m * sz:=by rw [<- Nat.add_mul]; congr 1; omega
   have e2:m * sz <= C * sz:=Nat.mul_le_mul_right _ h2
   omega
  cases mx with
  | none =>
   have:=sG hm
   subst this
   simp only at h
   replace h:=aM h; obtain ⟨hc,h⟩:=h
   rw [aF] at hc
   have h1:l <= h':=bA hc.1
   have h2:=hmax _ hc.2
   have hbd:=gL (P:=P) (w:=w) (isSlice:=true) (cap:=C) hlo hhi hl hh h1 h2
   have hrun:(Instr.sliceAt t (.slice (some ⟨b,o+off,none⟩) n C) lv hv none).run P w=.ok (.slice (some (if C=l then (⟨b,o+off,none⟩:Addr) else (⟨b,o+off,none⟩:Addr).add (l * sz))) (h' - l) (C - l)) w:=by
    simp [Instr.sliceAt,Instr.slice,run_underlying hut,hbd,hei]
    split <;> rfl
   refine ⟨_,hrun,?_⟩
   unfold cnd at h
   split at h
   ·rename_i hl0
    have hl0:=aG hl0
    subst hl0
    rw [eD] at h
    simp only [aA] at h
    subst h
    rw [Nat.zero_mul,zJf]
    exact ⟨b,o,N,C,hb,rfl,hcap,h2,hCm,hfit⟩
   ·split at h
    ·rename_i hlc
     rw [Nat.blt_eq] at hlc
     simp only [eD,aA] at h
     subst h
     rw [zRn C (by omega)]
     refine ⟨b,o,N,C - l,hb,rfl,?_,by omega,by omega,hsub C (by omega) (aI _)⟩
     unfold Ez at hcap ⊢
     split at hcap <;> omega
    ·rename_i hlc
     have hlc:c <= l:=by
      rcases aY l c with h4 | h4
      ·rw [<- Nat.blt_eq] at h4; rw [h4] at hlc; cases hlc
      ·exact h4
     replace h:=aM h; obtain ⟨hhl,h⟩:=h
     have hhl:=aG hhl
     simp only [aA] at h
     subst h hhl
     rw [Nat.sub_self]
     refine ⟨_,_,rfl,by omega,fun hex=>?_⟩
     subst hex
     simp only [Ez] at hcap
     omega
  | some ma =>
   obtain ⟨mv',rfl,hmr⟩:=hm
   simp only at h
   replace h:=aC h; obtain ⟨m,hmm,h⟩:=h
   replace h:=aM h; obtain ⟨hc,h⟩:=h
   rw [aF,aF] at hc
   have h1:l <= h':=bA hc.1.1
   have h3:h' <= m:=bA hc.1.2
   have h2:=hmax _ hc.2
   have hbd:=Cc (P:=P) (w:=w) (isSlice:=true) (cap:=C) hlo hhi (by cases hi <;> simp [zIx] at hmx ⊢) hmm hl hh hmr h1 h3 h2
   have hrun:(Instr.sliceAt t (.slice (some ⟨b,o+off,none⟩) n C) lv hv (some mv')).run P w=.ok (.slice (some (if m=l then (⟨b,o+off,none⟩:Addr) else (⟨b,o+off,none⟩:Addr).add (l * sz))) (h' - l) (m - l)) w:=by
    simp [Instr.sliceAt,Instr.slice,run_underlying hut,hbd,hei]
    split <;> rfl
   refine ⟨_,hrun,?_⟩
   unfold cnd at h
   split at h
   ·rename_i hl0
    have hl0:=aG hl0
    subst hl0
    simp only [eD,aA] at h
    subst h
    rw [Nat.zero_mul,zJf]
    have e2:m * sz <= C * sz:=Nat.mul_le_mul_right _ h2
    exact ⟨b,o,N,m,hb,rfl,rfl,h3,by omega,by omega⟩
   ·split at h
    ·rename_i hlc
     rw [Nat.blt_eq] at hlc
     simp only [eD,aA] at h
     subst h
     rw [zRn m (by omega)]
     exact ⟨b,o,N,m - l,hb,rfl,rfl,by omega,by omega,hsub m (by omega) h2⟩
    ·rename_i hlc
     have hlc:m <= l:=by
      rcases aY l m with h4 | h4
      ·rw [<- Nat.blt_eq] at h4; rw [h4] at hlc; cases hlc
      ·exact h4
     simp only [aA] at h
     subst h
     have e1:h' - l=0:=by omega
     have e2:m - l=0:=by omega
     rw [e1,e2]
     exact ⟨_,_,rfl,by simp [maxLen],fun _=>rfl⟩
 ·rename_i n e id off hk
  split at h
  ·cases h
  ·have:=sG hm
   subst this
   replace h:=aC h; obtain ⟨h',hhi,h⟩:=h
   replace h:=aC h; obtain ⟨ei,Ph,h⟩:=h
   replace h:=aC h; obtain ⟨cs,hcs,h⟩:=h
   replace h:=aM h; obtain ⟨hc,h⟩:=h
   rw [aF,aF,aF,Nat.ble_eq,Nat.ble_eq,Nat.blt_eq,Nat.ble_eq] at hc
   have hc4:=hc.2
   have hc:=hc.1
   obtain ⟨b,o,N,hb,rfl⟩:=hu
   obtain ⟨b',o',N',vs,hb',_,_,_,_,hfit⟩:=zZ hW hcs
   rw [hb] at hb'
   simp only [aA,aB] at hb'
   obtain ⟨rfl,rfl,rfl⟩:=hb'
   have hfit:=hfit hc.2
   have hut:=ok.arr hk
   have hei:=(hI _ _ Ph).sizeOf (w:=w)
   have hbd:=gL (P:=P) (w:=w) (isSlice:=false) hlo hhi hl hh hc.1.1 hc.1.2
   have hn:n <= maxLen:=by simp only [maxLen]; omega
   have hrun:(Instr.sliceAt t (.pointer (some ⟨b,o+off,none⟩)) lv hv none).run P w=.ok (.slice (some (if n=l then (⟨b,o+off,none⟩:Addr) else (⟨b,o+off,none⟩:Addr).add (l * ei.size))) (h' - l) (n - l)) w:=by
    simp [Instr.sliceAt,Instr.sureAddr,run_underlying hut,hbd,hei]
   refine ⟨_,hrun,?_⟩
   unfold cnd at h
   split at h
   ·rename_i hl0
    have hl0:=aG hl0
    subst hl0
    simp only [eD,aA] at h
    subst h
    rw [Nat.zero_mul,zJf]
    exact ⟨b,o,N,n,hb,rfl,rfl,hc.1.2,hn,hfit⟩
   ·replace h:=aM h; obtain ⟨hlc,h⟩:=h
    rw [Nat.blt_eq] at hlc
    simp only [eD,aA] at h
    subst h
    rw [if_neg (by omega),Addr.add_lit,Nat.add_assoc]
    refine ⟨b,o,N,n - l,hb,rfl,rfl,by omega,by omega,?_⟩
    have e1:(n - l) * ei.size+l * ei.size=n * ei.size:=by rw [<- Nat.add_mul]; congr 1; omega
    omega
 ·cases h
theorem Xu {t:TypeId} {ci:CI} (ok:gH P t ci) {l:List AV} {vs:List Value} (hr:AV.aN β l vs) {off:Nat} {v:AV}
  (h:(match ci.k.isAgg with | true=>ob (tk ci.size (drp off l)) fun l=>some (.ag l) | false=>nth l off)=some v) :
  ∃ y,(part t vs.toArray off).run P w=.ok y w∧v.Rel β y:=by
 split at h
 ·rename_i ha
  replace h:=aC h; obtain ⟨l',hl,h⟩:=h
  simp only [aA] at h
  subst h
  rw [wT] at hl
  obtain ⟨rfl,hn⟩:=Dq hl
  refine ⟨.agg ((vs.drop off).take ci.size).toArray,?_,_,rfl,(hr.drop off).take ci.size⟩
  simp only [part,Sem.run_bind,ok.isAgg,Result.andThen_ok,ha,if_true,ok.sizeOf,Sem.run_pure]
  congr 2
  apply Array.ext'
  simp [List.extract_eq_take_drop]
 ·rename_i ha
  rw [zBu] at h
  obtain ⟨x,hx,hrel⟩:=hr.get h
  refine ⟨x,?_,hrel⟩
  simp [part,ok.isAgg,ha,hx]
theorem zEn (hI:TOK P I) {t:TypeId} {x v:AV} {f:Nat} {u:Value} (h:zBn I t x f=some v) (hu:x.Rel β u):∃ y,(Instr.field t u f).run P w=.ok y w∧v.Rel β y:=by
 unfold zBn at h
 split at h
 ·rename_i l
  replace h:=aC h; obtain ⟨ti,hti,h⟩:=h
  split at h
  ·rename_i fs hk
   replace h:=aC h; obtain ⟨p,hp,h⟩:=h
   replace h:=aC h; obtain ⟨fi,hfi,h⟩:=h
   obtain ⟨ff,hff,rfl⟩:=(hI _ _ hti).struct hk
   obtain ⟨vs,rfl,hr⟩:=hu
   rw [List.getElem?_map,Option.map_eq_some_iff] at hp
   obtain ⟨fd,hfd,rfl⟩:=hp
   obtain ⟨y,hy,hrel⟩:=Xu (w:=w) (hI _ _ hfi) hr h
   refine ⟨y,?_,hrel⟩
   have zPy:ff[f]?=some fd:=by rw [<- Array.getElem?_toList]; exact hfd
   simp [Instr.field,run_underlying hff,zPy,asAgg,hy]
  ·cases h
 ·cases h
theorem Sk (hI:TOK P I) {t:TypeId} {x v:AV} {f:Nat} {u:Value} (h:Fa I t x f=some v) (hu:x.Rel β u):∃ y,(Instr.fieldAt t u f).run P w=.ok y w∧v.Rel β y:=by
 unfold Fa at h
 split at h
 ·rename_i id off
  replace h:=aC h; obtain ⟨ti,hti,h⟩:=h
  split at h
  ·rename_i fs hk
   replace h:=aC h; obtain ⟨p,hp,h⟩:=h
   replace h:=aC h; obtain ⟨fi,hfi,h⟩:=h
   replace h:=aM h; obtain ⟨hne,h⟩:=h
   obtain ⟨ff,hff,rfl⟩:=(hI _ _ hti).struct hk
   obtain ⟨b,o,N,hb,rfl⟩:=hu
   rw [eD] at h
   simp only [aA] at h
   subst h
   rw [List.getElem?_map,Option.map_eq_some_iff] at hp
   obtain ⟨fd,hfd,rfl⟩:=hp
   have zPy:ff[f]?=some fd:=by rw [<- Array.getElem?_toList]; exact hfd
   have hz:¬ fi.size=0:=by
    intro e
    rw [e] at hne
    cases hne
   refine ⟨.pointer (some ⟨b,o+off+fd.offset,none⟩),?_,b,o,N,hb,by rw [Nat.add_assoc]⟩
   simp [Instr.fieldAt,run_underlying hff,zPy,Instr.sureAddr,fieldPlace,(hI _ _ hfi).sizeOf,hz,Addr.add_lit]
  ·cases h
 ·cases h
theorem Sl (hI:TOK P I) {t:TypeId} {x i v:AV} {u iv:Value} (h:Fb I t x i=some v) (hu:x.Rel β u) (hi:i.Rel β iv):∃ y,(Instr.indexAt t u iv).run P w=.ok y w∧v.Rel β y:=by
 unfold Fb at h
 replace h:=aC h; obtain ⟨ti,hti,h⟩:=h
 replace h:=aC h; obtain ⟨k,hk0,h⟩:=h
 obtain ⟨kk,rfl⟩:=fC hk0 hi
 have ok:=hI _ _ hti
 split at h
 ·rename_i n e id off hk
  replace h:=aC h; obtain ⟨ei,hei,h⟩:=h
  replace h:=aM h; obtain ⟨hlt,h⟩:=h
  rw [Nat.blt_eq] at hlt
  rw [eD] at h
  simp only [aA] at h
  subst h
  obtain ⟨b,o,N,hb,rfl⟩:=hu
  have h1:(0:Int) <= (k:Int):=by omega
  have h2:(k:Int) < (n:Int):=by omega
  refine ⟨.pointer (some ⟨b,o+off+k * ei.size,none⟩),?_,b,o,N,hb,by rw [Nat.add_assoc]⟩
  simp [Instr.indexAt,asIntOf,run_underlying (ok.arr hk),Instr.sureAddr,hlt,Nat.not_le.2 hlt,(hI _ _ hei).sizeOf,Addr.add_lit]
 ·rename_i e id off n c sz ex hk
  replace h:=aC h; obtain ⟨ei,hei,h⟩:=h
  replace h:=aM h; obtain ⟨hlt,h⟩:=h
  rw [Nat.blt_eq] at hlt
  rw [eD] at h
  simp only [aA] at h
  subst h
  obtain ⟨b,o,N,C,hb,rfl,_⟩:=hu
  have h2:(k:Int) < (n:Int):=by omega
  refine ⟨.pointer (some ⟨b,o+off+k * ei.size,none⟩),?_,b,o,N,hb,by rw [Nat.add_assoc]⟩
  simp [Instr.indexAt,asIntOf,run_underlying (ok.slice hk),hlt,Nat.not_le.2 hlt,(hI _ _ hei).sizeOf,Addr.add_lit]
 ·cases h
theorem zEo (hI:TOK P I) {t:TypeId} {x i v:AV} {u iv:Value} (h:zBo I t x i=some v) (hu:x.Rel β u) (hi:i.Rel β iv):∃ y,(Instr.index t u iv).run P w=.ok y w∧v.Rel β y:=by
 unfold zBo at h
 replace h:=aC h; obtain ⟨ti,hti,h⟩:=h
 replace h:=aC h; obtain ⟨k,hk0,h⟩:=h
 obtain ⟨kk,rfl⟩:=fC hk0 hi
 have ok:=hI _ _ hti
 split at h
 ·rename_i s hk
  obtain ⟨ba,rfl,rfl⟩:=hu
  rw [wT] at h
  split at h
  ·rename_i b r hd
   simp only [aA] at h
   subst h
   have hg:(ba.data.toList.map UInt8.toNat)[k]?=some b:=by
    have:=congrArg List.head? hd
    rwa [List.head?_drop,List.head?_cons] at this
   rw [List.getElem?_map,Option.map_eq_some_iff] at hg
   obtain ⟨c,hc,rfl⟩:=hg
   have hlt:k < ba.size:=by
    rw [zJ]; exact (aS.1 hc).1
   have hb:ba[k]?=some c:=by
    rw [getElem?_pos ba k hlt]
    rw [Array.getElem?_toList] at hc
    obtain ⟨h1,h2⟩:=Array.getElem?_eq_some_iff.1 hc
    exact congrArg some h2
   refine ⟨.int .u8 c.toNat,?_,rfl⟩
   have h1:(0:Int) <= (k:Int):=by omega
   simp [Instr.index,asIntOf,run_underlying (ok.str hk),hb]
  ·cases h
 ·rename_i n e l hk
  replace h:=aC h; obtain ⟨ei,hei,h⟩:=h
  replace h:=aM h; obtain ⟨hlt,h⟩:=h
  rw [Nat.blt_eq] at hlt
  obtain ⟨vs,rfl,hr⟩:=hu
  obtain ⟨y,hy,hrel⟩:=Xu (w:=w) (hI _ _ hei) hr h
  refine ⟨y,?_,hrel⟩
  have h2:(k:Int) < (n:Int):=by omega
  simp [Instr.index,asIntOf,run_underlying (ok.arr hk),hlt,Nat.not_le.2 hlt,(hI _ _ hei).sizeOf,hy]
 ·cases h
end
end Go.Ce
namespace Go.Ce
section
variable {P:Program} {lo:Nat} {β:Bt} {A:W} {w:World} {I:T CI} {evf:Operand->Option AV} {ρ:Operand->Value}
def tF (β:Bt) (evf:Operand->Option AV) (ρ:Operand->Value):Prop:=∀ x a,evf x=some a->a.Rel β (ρ x)
theorem tF.mono {β β':Bt} (h:tF β evf ρ) (hl:Le β β'):tF β' evf ρ:=fun x a hx=>(h x a hx).mono hl
theorem Pj (he:tF β evf ρ):∀ {xs:List Operand} {l:List AV},avs evf xs=some l->AV.aN β l (xs.map ρ)
 | [],l,h=>by simp only [avs,aA] at h; subst h; rfl
 | x :: xs,l,h=>by
  simp only [avs] at h
  split at h
  ·rename_i a l' h1 h2
   simp only [aA] at h
   subst h
   exact ⟨_,_,rfl,he _ _ h1,Pj he h2⟩
  ·cases h
theorem yO (he:tF β evf ρ) {place:Nat->Option (Nat × Nat)} {places:Nat->Option (Nat × Nat)} (hp:∀ i p,place i=some p->places i=some p):∀ {ps:List (Nat × Operand)} {cs r:List AV} {vs:Array Value},
  Fe evf place ps cs=some r->AV.aN β cs vs.toList->∃ vs':Array Value,Instr.fill places vs (ps.map fun p=>(p.1,ρ p.2))=some vs'∧AV.aN β r vs'.toList∧vs'.size=vs.size
 | [],cs,r,vs,h,hr=>by simp only [Fe,aA] at h; subst h; exact ⟨vs,rfl,hr,rfl⟩
 | (i,x) :: ps,cs,r,vs,h,hr=>by
  simp only [Fe] at h
  split at h
  ·rename_i off size a h1 h2
   replace h:=aM h; obtain ⟨hc,h⟩:=h
   rw [aF] at hc
   split at h
   ·rename_i cs' hs
    obtain ⟨rfl,hfit⟩:=wC hs
    have hcr:=Bh (he _ _ h2) hc.2
    have hsz:(ρ x).cells.size=size:=by
     rw [<- Array.length_toList,<- hcr.length,<- len_eq]
     exact aG hc.1
    have hl:cs.length=vs.size:=hr.length.trans Array.length_toList
    have hal:a.cells.length=size:=by rw [<- len_eq]; exact aG hc.1
    have hstep:=Dec.Ar places vs i off size (ρ x) (ps.map fun p=>(p.1,ρ p.2)) (hp i _ h1) hsz (by omega)
    rw [List.map_cons,hstep]
    obtain ⟨vs',k1,k2,k3⟩:=yO he hp (vs:=(vs.toList.take off++(ρ x).cells.toList++vs.toList.drop (off+size)).toArray) h (by
     simp only
     rw [List.append_assoc,hal]
     exact (hr.take off).append (hcr.append (hr.drop _)))
    refine ⟨vs',k1,k2,?_⟩
    rw [k3]
    simp only [List.size_toArray,List.length_append,List.length_take,List.length_drop,Array.length_toList]
    omega
   ·cases h
  ·cases h
theorem Gf:∀ (n:Nat) (l:List AV),(rep n l).length=n * l.length∧∀ (i:Nat),i < n * l.length->(rep n l)[i]?=l[i % l.length]?
 | 0,l=>⟨by simp [rep],fun i h=>by omega⟩
 | n+1,l=>by
  obtain ⟨h1,h2⟩:=Gf n l
  refine ⟨by simp [rep,h1,Nat.succ_mul,Nat.add_comm],fun i hi=>?_⟩
  simp only [rep]
  rcases aY i l.length with h | h
  ·rw [dG h,Nat.mod_eq_of_lt h]
  ·rw [List.getElem?_append_right h,h2 _ (by rw [Nat.succ_mul] at hi; omega)]
   congr 1
   rw [Nat.mod_eq_sub_mod h]
theorem Ka {z:List AV} {zs:Array Value} (hz:AV.aN β z zs.toList) (n:Nat):AV.aN β (rep n z) ((Array.range (n * zs.size)).map fun i=>zs[i % zs.size]!).toList:=by
 have hl:z.length=zs.size:=hz.length.trans Array.length_toList
 refine AV.aN.Jq (by simp [Gf,hl]) fun i a ha=>?_
 have hi:i < n * z.length:=by
  have:=(aS.1 ha).1
  rwa [(Gf n z).1] at this
 rw [(Gf n z).2 i hi] at ha
 obtain ⟨x,hx,hrel⟩:=hz.get ha
 refine ⟨x,?_,hrel⟩
 rw [hl] at hi hx
 rw [Array.getElem?_toList] at hx
 rw [Array.toList_map,List.getElem?_map,Array.getElem?_toList,Array.getElem?_range,if_pos hi]
 simp only [Option.map_some]
 rw [getElem!_def,hx]
theorem zEp (hI:TOK P I) (he:tF β evf ρ) {t:TypeId} {ps:List (Nat × Operand)} {v:AV} (h:zBp I evf t ps=some v) :
  ∃ y,(Instr.build t (ps.map fun p=>(p.1,ρ p.2)).toArray).run P w=.ok y w∧v.Rel β y:=by
 unfold zBp at h
 replace h:=aC h; obtain ⟨ti,hti,h⟩:=h
 have ok:=hI _ _ hti
 obtain ⟨z,hz,hzr,_,hzl,hzs,_⟩:=ok.zero (w:=w)
 split at h
 ·rename_i fs hk
  replace h:=aM h; obtain ⟨hkn,h⟩:=h
  replace h:=aC h; obtain ⟨l,hl,h⟩:=h
  simp only [aA] at h
  subst h
  obtain ⟨ff,hff,rfl⟩:=ok.struct hk
  have hall:∀ f ∈ ff.toList,∃ fi,I.get f.type=some fi:=by
   have key:∀ fs:List (Nat × TypeId),Fg I fs=true->∀ p ∈ fs,∃ fi,I.get p.2=some fi:=by
    intro fs
    induction fs with
    | nil=>intro _ p hp; cases hp
    | cons q fs ih =>
     intro h p hp
     simp only [Fg,aF] at h
     cases hp with
     | head =>
      have:=h.1
      split at this
      ·rename_i x hx; exact ⟨x,hx⟩
      ·cases this
     | tail _ hp=>exact ih h.2 p hp
   intro f hf
   exact key _ hkn (f.offset,f.type) (List.mem_map.2 ⟨f,hf,rfl⟩)
  have hmap:∀ (l:List Field),(∀ f ∈ l,∃ fi,I.get f.type=some fi)->∀ acc:Array (Nat × Nat),
    (l.foldlM (fun (acc:Array (Nat × Nat)) f=>do pure (acc.push (f.offset,<- sizeOf f.type))) acc:Sem (Array (Nat × Nat))).run P w=.ok (acc++(l.map fun f=>(f.offset,((I.get f.type).map (·.size)).getD 0)).toArray) w:=by
   intro l
   induction l with
   | nil=>intro _ acc; simp
   | cons f l ih =>
    intro hl acc
    obtain ⟨tf,htf⟩:=hl f (.head _)
    simp only [List.foldlM_cons,Sem.run_bind,(hI _ _ htf).sizeOf,Result.andThen_ok,Sem.run_pure]
    rw [ih (fun g hg=>hl g (.tail _ hg))]
    simp [htf]
  have Ug:(ff.mapM (fun f=>do pure (f.offset,<- sizeOf f.type)):Sem (Array (Nat × Nat))).run P w=.ok ((ff.toList.map fun f=>(f.offset,((I.get f.type).map (·.size)).getD 0)).toArray) w:=by
   rw [Array.mapM_eq_foldlM,<- Array.foldlM_toList]
   have:=hmap ff.toList hall #[]
   simp only [bind_pure_comp] at this ⊢
   simpa using this
  obtain ⟨vs',k1,k2,_⟩:=yO he (places:=fun i=>(((ff.toList.map fun f=>(f.offset,((I.get f.type).map (·.size)).getD 0)).toArray)[i]?:Option (Nat × Nat))) (fun i p h=>by
   simp only [List.getElem?_map] at h
   split at h
   ·rename_i q hq
    rw [Option.map_eq_some_iff] at hq
    obtain ⟨fd,hfd,rfl⟩:=hq
    split at h
    ·rename_i fi hfi
     simp only [aA] at h
     subst h
     simp [hfd,hfi]
    ·cases h
   ·cases h) hl (hzr β)
  refine ⟨.agg vs',?_,vs'.toList,by simp,k2⟩
  simp only [Instr.build,Sem.run_bind,hz,Result.andThen_ok,run_underlying hff,Ug]
  rw [k1]
  rfl
 ·rename_i n e hk
  replace h:=aC h; obtain ⟨ei,hei,h⟩:=h
  replace h:=aC h; obtain ⟨l,hl,h⟩:=h
  simp only [aA] at h
  subst h
  have hs:=(hI _ _ hei).sizeOf (w:=w)
  obtain ⟨vs',k1,k2,_⟩:=yO he (places:=fun i=>some (i * ei.size,ei.size)) (fun i p h=>h) hl (hzr β)
  refine ⟨.agg vs',?_,vs'.toList,by simp,k2⟩
  simp [Instr.build,hz,run_underlying (ok.arr hk),hs,k1]
 ·cases h
end
end Go.Ce
