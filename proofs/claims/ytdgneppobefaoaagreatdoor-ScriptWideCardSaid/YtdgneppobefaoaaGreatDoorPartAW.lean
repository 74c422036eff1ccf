/- Part of a proof over this seat: a library of my own, and what it says of this seat. No statement is proved here. -/
import Derived.Test.YtdgneppobefaoaaGreatDoorPartAV
import Derived.Lib.UnsafeStr
import Derived.Lib.MakeNoZero
namespace Go.Ce
def zKa (e:TypeId):Gv:=fun _ A xs=>match xs with
 | [.it .i64 (.ofNat n)]=>ck (Nat.ble n 1000000) (ob (yN A e []) fun A'=>some (.sl A.nx 0 n 0 1 false,A'))
 | _=>none
theorem zTl {P:Program} {f:FuncId} {fn:Func} {ps:Array TypeId} {t e:TypeId} (hf:P.funcs[f]?=some fn) (hname:(fn.name == "runtime.NumGoroutine")=false) (hb:fn.body.isNone=true) (hn:Extern.findNext fn=none)
  (he:Extern.find fn=some (Extern.BytealgMakeNoZero.makeNoZero ps #[t])) (ht:P.underlying t=some (.slice e))
  (lo:Nat) (A:W) (args:List AV) (v:AV) (A':W) (h:zKa e lo A args=some (v,A')):cZ P lo f args A (.ret v) A':=by
 intro β w xs hW hr
 unfold zKa at h
 split at h
 ·rename_i n
  obtain ⟨hc,h⟩:=aM h
  obtain ⟨A1,hA,h⟩:=aC h
  simp only [aA,aB] at h
  obtain ⟨rfl,rfl⟩:=h
  rw [Nat.ble_eq] at hc
  obtain ⟨x,xs1,rfl,h1,h3⟩:=hr
  simp only [AV.aN] at h3
  subst h3
  simp only [AV.Rel] at h1
  subst h1
  obtain ⟨cs,hrun,hge,hmx⟩:=Go.Lib.run_makeNoZero (P:=P) w ps t e ht n (by omega)
  obtain ⟨f1,f2,f3⟩:=iE w.drew.drew (.cells cs e)
  refine .inr ⟨_,_,_,_,rfl,?_,Si hW hA f1 f2 f3 (fun i _ h=>by omega) (vs:=[]) (rest:=cs.toList) (by simp) rfl rfl rfl rfl,w.heap.size,0,_,_,upd_same _ _ _,rfl,Nat.zero_le _,hge,hmx (by unfold maxLen; omega),by simp⟩
  rw [run_callFunc_extern hf hname hb hn he]
  have zJe:(Extern.BytealgMakeNoZero.makeNoZero ps #[t] (List.toArray [Value.int IntKind.i64 (Int.ofNat n)])).run P w=_:=hrun
  rw [zJe]
  rfl
 ·cases h
def gCC (t:TypeId):Gv:=fun lo A xs=>match xs with
 | [.pt id 0]=>match A.H.get id with
  | some (.typed u [.np,buf])=>ck (Nat.beq u t && Nat.ble lo id && Nat.blt id big) (some (.tu [],⟨A.H.put id (some (.typed u [.pt id 0,buf])),A.nx⟩))
  | some (.typed _ [.pt i 0,_])=>ck (Nat.beq i id) (some (.tu [],A))
  | _=>none
 | _=>none
theorem zVu {P:Program} {f:FuncId} {t:TypeId} (henter:∀ xs w,(callFunc f xs).run P w=.ok (.enter f xs) w)
  (zXt:∀ (b:Nat) (w:World),w.cell? ⟨b,0,none⟩=some (.pointer (some ⟨b,0,none⟩))->Calls P f #[.pointer (some ⟨b,0,none⟩)] w fun e w'=>e=.returned (.tuple #[])∧w'=w)
  (hfresh:∀ (b:Nat) (w:World),w.cell? ⟨b,0,none⟩=some (.pointer none)->w.shape? b=some (t,2)->w.frozen? ⟨b,0,none⟩=false ->
   Calls P f #[.pointer (some ⟨b,0,none⟩)] w fun e w'=>e=.returned (.tuple #[])∧w'=w.setCell ⟨b,0,none⟩ (.pointer (some ⟨b,0,none⟩)))
  (lo:Nat) (A:W) (args:List AV) (v:AV) (A':W) (h:gCC t lo A args=some (v,A')):cZ P lo f args A (.ret v) A':=by
 intro β w xs hW hr
 unfold gCC at h
 split at h
 ·rename_i id
  obtain ⟨x,xs1,rfl,⟨b,o,n,hb,rfl⟩,h3⟩:=hr
  simp only [AV.aN] at h3
  subst h3
  split at h
  ·rename_i u buf hB
   obtain ⟨hc,h⟩:=aM h
   simp only [aA,aB] at h
   obtain ⟨rfl,rfl⟩:=h
   simp only [aF,Nat.ble_eq,Nat.blt_eq] at hc
   obtain ⟨⟨hu,hlo⟩,hbig⟩:=hc
   have hu:=aG hu
   subst hu
   obtain ⟨b',o',n',hb',hlt,rfl,c,h1,hm,hz,h3⟩:=hW.blk id _ hB
   rw [hb] at hb'
   simp only [aA,aB] at hb'
   obtain ⟨rfl,rfl,rfl⟩:=hb'
   obtain ⟨y,hy,hyr⟩:=h3 0 _ rfl
   simp only [AV.Rel] at hyr
   subst hyr
   simp only [List.length_cons,List.length_nil] at hz
   refine .inl ⟨henter _ w,(hfresh b w (by simp [World.cell?,h1,hy]) (by simp [World.shape?,h1,hz]) (by simp [World.frozen?,h1])).mono ?_⟩
   rintro e w' ⟨rfl,rfl⟩
   have hset:(w.setCell ⟨b,0,none⟩ (.pointer (some ⟨b,0,none⟩))).heap[b]?=some (.cells (c.setIfInBounds 0 (.pointer (some ⟨b,0,none⟩))) u (0,0)):=by
    unfold World.setCell
    rw [Array.getElem?_modify,if_pos rfl,h1]
    rfl
   refine ⟨β,Go.obj hW hB (fun _ h=>h) hlo hbig hb (by simp [World.setCell]) (fun k hk=>by simp [World.setCell,Array.getElem?_modify,Ne.symm hk]) ⟨rfl,_,hset,by simp [hm],by simp [hz],fun i v hv=>?_⟩ rfl rfl rfl,_,rfl,[],rfl,rfl⟩
   match i,hv with
   | 0,hv =>
    simp only [List.getElem?_cons_zero,aA] at hv
    subst hv
    exact ⟨.pointer (some ⟨b,0,none⟩),by simp [hz],b,0,n,hb,rfl⟩
   | i+1,hv =>
    obtain ⟨y,hy,hyr⟩:=h3 (i+1) v (by simpa using hv)
    refine ⟨y,?_,hyr⟩
    rw [Array.getElem?_setIfInBounds_ne (by omega)]
    exact hy
  ·rename_i u i buf hB
   obtain ⟨hc,h⟩:=aM h
   simp only [aA,aB] at h
   obtain ⟨rfl,rfl⟩:=h
   have hc:=aG hc
   subst hc
   obtain ⟨b',o',n',hb',hlt,rfl,c,h1,hm,hz,h3⟩:=hW.blk i _ hB
   rw [hb] at hb'
   simp only [aA,aB] at hb'
   obtain ⟨rfl,rfl,rfl⟩:=hb'
   obtain ⟨y,hy,b2,o2,n2,hb2,rfl⟩:=h3 0 _ rfl
   rw [hb] at hb2
   simp only [aA,aB] at hb2
   obtain ⟨rfl,rfl,rfl⟩:=hb2
   refine .inl ⟨henter _ w,(zXt b w (by simp [World.cell?,h1,hy])).mono ?_⟩
   rintro e w' ⟨rfl,rfl⟩
   exact ⟨β,.refl hW,_,rfl,[],rfl,rfl⟩
  ·cases h
 ·cases h
theorem Yl {P:Program} {e:TypeId} (hc:P.cellsOf e=1) (count o n:Nat) (hn:o+n <= count):liesAt P P.depth e count o e n=true:=by
 have hd:P.depth=(2 * (P.types.size+Made.depth)+1)+1:=rfl
 rw [hd]
 simp only [liesAt,Bool.or_eq_true]
 left
 rw [hd]
 simp [rowAt,hc,hn,sameLayout,Nat.mod_one]
theorem Ih {P:Program} (w:World) (pt it ty e:TypeId) (hp:P.underlying pt=some (.pointer e)) (hc:P.cellsOf e=1) (g o cells:Nat) (hsh:w.shape? g=some (e,cells)) (l:List UInt8) (h0:l ≠ []) (hn:o+l.length <= cells) (h63:l.length <= 9223372036854775807)
  (hcell:∀ j x,l[j]?=some x->w.cell? ((⟨g,o,none⟩:Addr).add j)=some (.int .u8 x.toNat)) :
  (Builtin.unsafeString_ #[pt,it] ty #[.pointer (some ⟨g,o,none⟩),.int .i64 l.length]).run P w=.ok (.string ⟨l.toArray⟩) (w.freeze ⟨g,o,none⟩ l.length):=by
 have hl:l.length ≠ 0:=by simpa using h0
 have hlb:=Go.Lib.run_loadBytes (P:=P) w l ⟨g,o,none⟩ .empty hcell
 have hlies:=Yl (P:=P) hc (cells / P.cellsOf e) o l.length (by rw [hc]; simpa using hn)
 have h63':¬ (9223372036854775807:Int) < (l.length:Int):=by omega
 have hdef:Builtin.unsafeString_ #[pt,it] ty #[.pointer (some ⟨g,o,none⟩),.int .i64 l.length] =
   (do
    let n <- asInt (.int .i64 l.length)
    if n < 0 then runtimePanic (.error "unsafe.String: len out of range")
    if n > IntKind.i64.max then unsupported (.unsafePointer "String: a length above the largest int")
    if n=0 then pure (.string .empty)
    else if <- variablesAt ⟨g,o,none⟩ (<- elemOf pt) n.toNat then do
     let s <- loadBytes ⟨g,o,none⟩ .empty n.toNat
     freeze ⟨g,o,none⟩ n.toNat
     pure (.string s)
    else unsupported (.unsafePointer "String: not so many bytes at ptr")):=rfl
 rw [hdef]
 have hmax:IntKind.i64.max=9223372036854775807:=rfl
 have hneg:¬ (l.length:Int) < 0:=by omega
 simp [asInt,asIntOf,hmax,h63',hneg,hl,variablesAt,hsh,elemOf,run_underlying hp,hlies,hlb]
def Lx (g:Nat) (w w':World):Prop:=w'.heap.size=w.heap.size∧(∀ k,k ≠ g->w'.heap[k]?=w.heap[k]?)∧(∀ c e fz,w.heap[g]?=some (.cells c e fz)->∃ fz',w'.heap[g]?=some (.cells c e fz'))∧w'.os=w.os∧w'.tape=w.tape∧w'.output=w.output
theorem zCq (w:World) (g o n:Nat):Lx g w (w.freeze ⟨g,o,none⟩ n):=by
 unfold World.freeze
 split
 ·exact ⟨rfl,fun _ _=>rfl,fun c e fz h=>⟨fz,h⟩,rfl,rfl,rfl⟩
 ·refine ⟨by simp,fun k hk=>?_,fun c e fz h=>?_,rfl,rfl,rfl⟩
  ·rw [Array.getElem?_modify,if_neg (fun e=>hk e.symm)]
  ·obtain ⟨x,y⟩:=fz
   simp only [Array.getElem?_modify,if_pos,h,Option.map_some]
   exact ⟨_,rfl⟩
def zKb (t e:TypeId):Gv:=fun lo A xs=>match xs with
 | [.pt id 0]=>match A.H.get id with
  | some (.typed u [_,.ns])=>ck (Nat.beq u t) (some (.st [],A))
  | some (.typed u [_,.sl g 0 n _ 1 _])=>match A.H.get g with
   | some (.cells cs cls true shr)=>ck (Nat.beq u t && Nat.ble lo g && Nat.blt g big && Nat.blt 0 n && Nat.beq (cls / big) (e+1)) (ob (tk n cs) fun l=>ob (rE l) fun l=>fL l fun l=>some (.st l,⟨A.H.put g (some (.cells cs cls false shr)),A.nx⟩))
   | _=>none
  | _=>none
 | _=>none
theorem Go.still {lo:Nat} {β:Bt} {A:W} {w w':World} (h:aX lo β A w) {id:Nat} {cs:List AV} {cls:Nat} {shr:Bool} (hB:A.H.get id=some (.cells cs cls true shr)) (hl:lo <= id) (hbig:id < big) {b o n:Nat} (hb:β id=some (b,o,n)) (hf:Lx b w w') :
  Go lo β A w β ⟨A.H.put id (some (.cells cs cls false shr)),A.nx⟩ w':=by
 obtain ⟨f1,f2,f3,f4,f5,f6⟩:=hf
 have key:∀ i B2,i ≠ id->(A.H.put id (some (.cells cs cls false shr))).get i=some B2->A.H.get i=some B2:=fun i B2 hi h4=>by rwa [T.aT _ hi] at h4
 have weak:∀ i B2,(A.H.put id (some (.cells cs cls false shr))).get i=some B2->∃ B3,A.H.get i=some B3∧(∀ X,mX B3 X->mX B2 X)∧∀ X,mX X B3->mX X B2:=fun i B2 h4=>by
  by_cases hi:i=id
  ·subst hi
   simp only [T.dJ _ hbig,aA] at h4
   subst h4
   refine ⟨_,hB,fun X hX=>?_,fun X hX=>?_⟩
   ·cases X <;> simp only [mX] at hX ⊢
    obtain ⟨h1,h2,h3,h4⟩:=hX
    exact ⟨h1,by simp,h3,by simp⟩
   ·cases X <;> simp only [mX] at hX ⊢
    obtain ⟨h1,h2,h3,h4⟩:=hX
    exact ⟨h1,h2,by simp,by simp⟩
  ·exact ⟨B2,key i B2 hi h4,fun _ h=>h,fun _ h=>h⟩
 refine { rel:=?_,ext:=.refl β,nx:=aI _,size:=by omega,old:=?_,back:=?_,keep:=?_,fresh:=fun i b o n hi hb=>(by rw [h.nx i hi] at hb; cases hb),old':=fun _ _ _ hb=>hb,os:=f4,tape:=f5,output:=f6 }
 ·refine { lo_le:=h.lo_le,blk:=?_,nx:=h.nx,here:=by rw [f1]; exact h.here,sep:=?_,side:=?_ }
  ·intro i B2 h4
   by_cases hi:i=id
   ·subst hi
    simp only [T.dJ _ hbig,aA] at h4
    subst h4
    obtain ⟨b2,o2,n2,h6,h7,c,e,fz,k1,k2,k3,k4⟩:=h.blk i _ hB
    rw [hb] at h6
    simp only [aA,aB] at h6
    obtain ⟨rfl,rfl,rfl⟩:=h6
    obtain ⟨fz',k5⟩:=f3 c e fz k1
    exact ⟨b,o,n,hb,by omega,c,e,fz',k5,k2,by simp,k4⟩
   ·have h5:=key i B2 hi h4
    obtain ⟨b2,o2,n2,h6,h7,h8⟩:=h.blk i B2 h5
    by_cases hbb:b2=b
    ·subst hbb
     have hm:=h.sep id i _ _ _ _ _ _ _ (Ne.symm hi) hB h5 hb h6
     cases B2 with
     | cells cs' c' t' s' =>
      obtain ⟨_,_,_,m4⟩:=hm
      obtain ⟨c,e,fz,k1,k2,k3,k4⟩:=h8
      obtain ⟨fz',k5⟩:=f3 c e fz k1
      exact ⟨b2,o2,n2,h6,by omega,c,e,fz',k5,k2,fun h=>absurd ⟨rfl,h⟩ m4,k4⟩
     | _=>exact hm.elim
    ·exact ⟨b2,o2,n2,h6,by omega,h8.mono (.refl β) (f2 b2 hbb)⟩
  ·intro i j B1 B2 b1 o1 o2 n1 n2 hne h4 h5 h6 h7
   obtain ⟨B3,w1,w2,_⟩:=weak i B1 h4
   obtain ⟨B4,w3,_,w4⟩:=weak j B2 h5
   exact w2 _ (w4 _ (h.sep i j B3 B4 b1 o1 o2 n1 n2 hne w1 w3 h6 h7))
  ·intro i j B2 b1 o1 o2 n1 n2 hi hj h5 h6 h7
   obtain ⟨B4,w3,_,_⟩:=weak j B2 h5
   exact h.side i j _ b1 o1 o2 n1 n2 hi hj w3 h6 h7
 ·intro k hk hn
  exact f2 k fun e=>hn (e ▸ ⟨id,_,o,n,hl,hB,hb⟩)
 ·intro i B2 hi h4
  obtain ⟨B3,w1,_⟩:=weak i B2 h4
  exact ⟨B3,w1⟩
 ·intro i hi
  show (A.H.put id _).get i=_
  rw [T.aT _ (by omega)]
theorem Ia {β:Bt}:∀ {l:List AV} {s:List Nat} {vs:List Value},rE l=some s->AV.aN β l vs->∃ bs:List UInt8,bs.map UInt8.toNat=s∧bs.length=l.length∧∀ (j:Nat) (x:UInt8),bs[j]?=some x->vs[j]?=some (Value.int .u8 x.toNat)
 | [],s,vs,h,_=>by
  simp only [rE,aA] at h
  subst h
  exact ⟨[],rfl,rfl,fun j x h=>by simp at h⟩
 | a :: r,s,vs,h,hr=>by
  obtain ⟨y,ys,rfl,h1,h2⟩:=hr
  unfold rE at h
  split at h
  ·rename_i heq; cases heq
  ·rename_i k r' heq
   simp only [aK] at heq
   obtain ⟨rfl,rfl⟩:=heq
   obtain ⟨hc,h⟩:=aM h
   obtain ⟨s',hs,h⟩:=aC h
   simp only [aA] at h
   subst h
   rw [Nat.blt_eq] at hc
   obtain ⟨bs,e1,e2,e3⟩:=Ia hs h2
   simp only [AV.Rel] at h1
   subst h1
   refine ⟨UInt8.ofNat k :: bs,by simp [e1]; omega,by simp [e2],fun j x hx=>?_⟩
   match j,hx with
   | 0,hx =>
    simp only [List.getElem?_cons_zero,aA] at hx
    subst hx
    have:(UInt8.ofNat k).toNat=k:=by simp; omega
    simp [this]
   | j+1,hx=>simpa using e3 j x (by simpa using hx)
  ·cases h
theorem zTm {P:Program} {f:FuncId} {t e:TypeId} (henter:∀ xs w,(callFunc f xs).run P w=.ok (.enter f xs) w)
  (hnil:∀ (b:Nat) (p:Value) (w:World),w.heap[b]?=some (.cells #[p,.slice none 0 0] t (0,0))->Calls P f #[.pointer (some ⟨b,0,none⟩)] w fun e w'=>e=.returned (.string ⟨#[]⟩)∧∃ g,Lx g w w'∧w'.heap=w.heap)
  (hfull:∀ (b g o cap N:Nat) (p:Value) (l:List UInt8) (w:World),l ≠ []->w.heap[b]?=some (.cells #[p,.slice (some ⟨g,o,none⟩) l.length cap] t (0,0))->w.shape? g=some (e,N)->o+l.length <= N->l.length <= cap->cap <= maxLen ->
   (∀ j x,l[j]?=some x->w.cell? ⟨g,o+j,none⟩=some (.int .u8 x.toNat))->Calls P f #[.pointer (some ⟨b,0,none⟩)] w fun e w'=>e=.returned (.string ⟨l.toArray⟩)∧Lx g w w')
  (lo:Nat) (A:W) (args:List AV) (v:AV) (A':W) (h:zKb t e lo A args=some (v,A')):cZ P lo f args A (.ret v) A':=by
 intro β w xs hW hr
 unfold zKb at h
 split at h
 ·rename_i id
  obtain ⟨x,xs1,rfl,⟨b,o,n,hb,rfl⟩,h3⟩:=hr
  simp only [AV.aN] at h3
  subst h3
  have zVv:∀ {c:Array Value} {a a':AV},c.size=[a,a'].length->∃ x y,c=#[x,y]:=fun {c a a'} hz=>by
   obtain ⟨l⟩:=c
   simp only [List.size_toArray,List.length_cons,List.length_nil] at hz
   match l,hz with
   | [x,y],_=>exact ⟨x,y,rfl⟩
  split at h
  ·rename_i u a hB
   obtain ⟨hc,h⟩:=aM h
   simp only [aA,aB] at h
   obtain ⟨rfl,rfl⟩:=h
   have hc:=aG hc
   subst hc
   obtain ⟨b',o',n',hb',hlt,rfl,c,h1,hm,hz,h3⟩:=hW.blk id _ hB
   rw [hb] at hb'
   simp only [aA,aB] at hb'
   obtain ⟨rfl,rfl,rfl⟩:=hb'
   obtain ⟨p,q,rfl⟩:=zVv hz
   obtain ⟨y,hy,hyr⟩:=h3 1 _ rfl
   simp only [AV.Rel] at hyr
   subst hyr
   simp only [List.getElem?_toArray,List.getElem?_cons_succ,List.getElem?_cons_zero,aA] at hy
   subst hy
   refine .inl ⟨henter _ w,(hnil b p w h1).mono ?_⟩
   rintro e w' ⟨rfl,g,⟨_,_,_,k1,k2,k3⟩,hh⟩
   exact ⟨β,Go.same hW hh k1 k2 k3,_,rfl,_,rfl,rfl⟩
  ·rename_i u a g n cap ex hB
   split at h
   ·rename_i cs cls shr hG
    obtain ⟨hc,h⟩:=aM h
    obtain ⟨l,hl,h⟩:=aC h
    obtain ⟨s,hs,h⟩:=aC h
    rw [Zh] at h
    simp only [aA,aB] at h
    obtain ⟨rfl,rfl⟩:=h
    simp only [aF,Nat.ble_eq,Nat.blt_eq] at hc
    obtain ⟨⟨⟨⟨hu,hlo⟩,hbig⟩,h0⟩,hty⟩:=hc
    have hu:=aG hu
    subst hu
    have hty:=aG hty
    obtain ⟨b',o',n',hb',hlt,rfl,c,h1,hm,hz,h3⟩:=hW.blk id _ hB
    rw [hb] at hb'
    simp only [aA,aB] at hb'
    obtain ⟨rfl,rfl,rfl⟩:=hb'
    obtain ⟨p,q,rfl⟩:=zVv hz
    obtain ⟨y,hy,bg,og,ng,C,hbg,rfl,hcap,hnC,hCm,hfit⟩:=h3 1 _ rfl
    simp only [List.getElem?_toArray,List.getElem?_cons_succ,List.getElem?_cons_zero,aA] at hy
    subst hy
    obtain ⟨bg',og',ng',zQl,zZa,c,e2,fz,k1,⟨k2,k6⟩,k3,k4⟩:=hW.blk g _ hG
    rw [hbg] at zQl
    simp only [aA,aB] at zQl
    obtain ⟨rfl,rfl,rfl⟩:=zQl
    have he:e2=e:=by
     unfold yM dI at k6
     rw [hty] at k6
     exact k6
    subst he
    obtain ⟨b2,o2,m2,vs,hb2,_,hlen,hrel,hcell,_⟩:=Vd (n:=n) (off:=0) (cs:=cs) hbg zZa (show (Blk.cells cs cls true shr).Rel β w.heap bg og ng from ⟨c,e2,fz,k1,⟨k2,k6⟩,k3,k4⟩) hl
    rw [hbg] at hb2
    simp only [aA,aB] at hb2
    obtain ⟨rfl,rfl,rfl⟩:=hb2
    obtain ⟨bs,e4,e5,e6⟩:=Ia hs hrel
    rw [hlen] at e5
    have e7:bs ≠ []:=by rintro rfl; simp at e5; omega
    refine .inl ⟨henter _ w,(hfull b bg og C ng p bs w e7 ?_ ?_ ?_ ?_ hCm ?_).mono ?_⟩
    ·rw [h1,e5]; rfl
    ·simp [World.shape?,k1,k2]
    ·omega
    ·omega
    ·intro j x hx
     have:=hcell j _ (e6 j x hx)
     simpa using this
    ·rintro e w' ⟨rfl,hf⟩
     exact ⟨β,Go.still hW hG hlo hbig hbg hf,_,rfl,_,rfl,e4⟩
   ·cases h
  ·cases h
 ·cases h
end Go.Ce
