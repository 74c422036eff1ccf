/- Part of a proof over this seat: a library of my own, and what it says of this seat. No statement is proved here. -/
import Derived.Test.YtdgneppobefaoaaGreatDoorPartBK
import Derived.Test.YtdgneppobefaoaaGreatDoorPartBE
import Derived.Test.YtdgneppobefaoaaGreatDoorPartAK
import Derived.WalkKit
import Derived.KernelRfl
import Derived.Test.YtdgneppobefaoaaGreatDoorPartBD
import Derived.Test.YtdgneppobefaoaaGreatDoorPartAY
import Derived.Test.YtdgneppobefaoaaGreatDoorPartBM
import Derived.Test.YtdgneppobefaoaaGreatDoorPartBJ
namespace Go.Dec
def sH (_n:Nat) (_x:Unit):Option Unit:=some ()
end Go.Dec
namespace Go.Dec
open Go.Proofs Go.RowKit Go.Ce
theorem zEv (e0:Int) (w:World):Calls Tryz.prog 50 #[.int .i64 e0] w fun e w'=>e=.panicked [{ v:=.iface 36 (.int .i64 e0),recovered:=false }]∧w'=w:=by
 go_enter Tryz.func50,Tryz.ntmps50
 go_wp2
 exact ⟨rfl,rfl,rfl⟩
section
variable {si so sp sd od:Sh}
theorem Vl {C:Ctx} {β:Nat->Pl} {w:World} {σ:St} {a:Act} (h:Sim C β σ a w) (x:Int):Sim C β ⟨[.one (.val (.int .i64) x)],σ.h⟩ { tmps:=#[.int .i64 x],defers:=[] } w:=by
 refine ⟨h.heap,rfl,rfl,fun i u hu=>?_⟩
 cases i with
 | zero =>
  simp only [List.getElem?_cons_zero,aA] at hu
  subst hu
  simp only [V.Rel,L.Rel,Ty.Rel]
  rfl
 | succ i=>simp at hu
theorem zEw {F:si.X->Option (Sum so.X sp.X)} (hF:∀ x,∃ a z,F x=some (.inr z)∧sp.enc z=⟨[.one (.val (.int .i64) a)],(si.enc x).h⟩∧(si.enc x).r=[.one (.val (.int .i64) a)]):mW Tryz.prog 50 si so 36 sp F:=by
 refine ⟨by kernel_rfl,fun x y hy C β w xs hP hkf hs=>?_⟩
 obtain ⟨a,z,hz,he,hr⟩:=hF x
 rw [hz] at hy
 obtain rfl:=Option.some.inj hy
 have hl:xs.length=1:=by have:=hs.size; rw [hr] at this; simpa using this.symm
 obtain ⟨u,rfl⟩:=List.length_eq_one_iff.1 hl
 have h1:=hs.reg 0 (.one (.val (.int .i64) a)) (by rw [hr]; rfl)
 simp only [V.Rel,L.Rel,Ty.Rel,aK,and_true] at h1
 simp at h1
 subst h1
 refine (zEv a w).mono ?_
 rintro e w' ⟨rfl,rfl⟩
 refine .inr ⟨z,_,β,rfl,rfl,?_⟩
 rw [he]
 exact Vl hs a
theorem zDd {g : FuncId} {c : L} {caps : List L} {F : sd.X -> Option (Sum od.X sp.X)} {G : si.X -> Option so.X} {conv : si.X -> sd.X} {o1 : od.X -> so.X} {o2 : sp.X -> so.X} (hM : mW Tryz.prog g sd od 36 sp F) (hos : sd.os.length = si.os.length)
    (hin : ∀ x, si.enc x = ⟨[.one (.clo (g + 1000000) (c :: caps))], (sd.enc (conv x)).h⟩ ∧ (sd.enc (conv x)).r = (c :: caps).map V.one)
    (hG : ∀ x, G x = match F (conv x) with | some (.inl y) => some (o1 y) | some (.inr z) => some (o2 z) | none => none)
    (h1 : ∀ y, so.enc (o1 y) = ⟨[.one (.val (.int .i64) 0)], (od.enc y).h⟩ ∧ (od.enc y).r = [])
    (h2 : ∀ z, ∃ a, so.enc (o2 z) = ⟨[.one (.val (.int .i64) a)], (sp.enc z).h⟩ ∧ (sp.enc z).r = [.one (.val (.int .i64) a)]) :
    rA Tryz.prog 23 si so G := by
  refine ⟨by kernel_rfl, fun x y hy C β w xs hP hkf hs => ?_⟩
  obtain ⟨he, hr⟩ := hin x
  rw [hG] at hy
  rw [he] at hs
  have hl : xs.length = 1 := by have := hs.size; simpa using this.symm
  obtain ⟨u, rfl⟩ := List.length_eq_one_iff.1 hl
  have hu := hs.reg 0 _ rfl
  simp only [V.Rel, L.Rel] at hu
  obtain ⟨us, hu, hcap⟩ := hu
  obtain ⟨u0, ur, rfl⟩ : ∃ u0 ur, us = u0 :: ur := by
    simp only [L.bP] at hcap
    obtain ⟨u0, ur, e, _⟩ := hcap
    exact ⟨u0, ur, e⟩
  rw [Qm] at hu
  have hu : u = .func (.func g) (u0 :: ur).toArray #[] := by simpa using hu
  subst hu
  have hargs := yC hcap
  generalize u0 :: ur = us at *
  have hsd : Sim C β (sd.enc (conv x)) { tmps := us.toArray, defers := [] } w := by
    have e : sd.enc (conv x) = ⟨(c :: caps).map V.one, (sd.enc (conv x)).h⟩ := by rw [<- hr]
    rw [e]
    refine ⟨hs.heap, rfl, by simpa using hargs.length, fun i v hv => ?_⟩
    have hi := (aS.1 hv).1
    have hi' : i < us.length := by rw [<- hargs.length]; exact hi
    have := hargs.get i hi hi'
    rw [(aS.1 hv).2] at this
    have e2 : (us.toArray).getD i undef = us[i] := by simp [hi']
    rw [e2]
    exact this
  have hk : Keep (fun _ _ => False) w (w.alloc (.cells #[.int .i64 0] 36)) := Keep.qU (M := fun _ => False) (by simp) (fun k hk _ => Below.heap_alloc _ _ k hk) (fun _ _ h => h)
  have hsz : (w.alloc (.cells #[.int .i64 0] 36)).heap.size = w.heap.size + 1 := by simp
  have hnew : (w.alloc (.cells #[.int .i64 0] 36)).heap[w.heap.size]? = some (.cells #[.int .i64 0] 36 (0, 0)) := World.alloc_heap_new _ _
  have hsN := hsd.inN hk (aI _) (by rw [hsz]; omega)
  cases hFx : F (conv x) with
  | none => rw [hFx] at hy; cases hy
  | some r =>
    rw [hFx] at hy
    have hcall := hM.2 (conv x) r hFx _ β _ us (by exact hP) (by rw [hos]; exact hkf) hsN
    have zRv : ∀ {β' : Nat -> Pl} {σ' : St} {a' : Act} {w2 : World}, Sim (Ev C β (sd.enc (conv x)).h w (w.alloc (.cells #[.int .i64 0] 36)) w.heap.size hsd.heap hk) β' σ' a' w2 -> w2.heap[w.heap.size]? = some (.cells #[.int .i64 0] 36 (0, 0)) := fun h => by
      rw [h.heap.frame.block _ (by show _ < (w.alloc _).heap.size; rw [hsz]; omega) (fun j hm => ?_)]
      · exact hnew
      · obtain ⟨i, o, ho, _, hb⟩ := hm
        have := (hsd.heap.dH i o _ ho ⟨_, hb⟩).2.1
        omega
    have hos0 := hs.heap.os
    have zVw := hs.heap.tape
    have zVx := hs.heap.output
    have hap : us.toArray ++ #[] = us.toArray := by simp
    have hC := Tryz.tried_calls (w := w) (g := g) (first := us.toArray) (caps := #[])
      (R := fun e w2 => (∃ y β' us, e = .returned (.tuple #[]) ∧ r = .inl y ∧ Sim (Ev C β (sd.enc (conv x)).h w (w.alloc (.cells #[.int .i64 0] 36)) w.heap.size hsd.heap hk) β' (od.enc y) { tmps := us, defers := [] } w2) ∨
        ∃ a z β' us, e = .panicked [{ v := .iface 36 (.int .i64 a), recovered := false }] ∧ r = .inr z ∧ so.enc (o2 z) = ⟨[.one (.val (.int .i64) a)], (sp.enc z).h⟩ ∧ Sim (Ev C β (sd.enc (conv x)).h w (w.alloc (.cells #[.int .i64 0] 36)) w.heap.size hsd.heap hk) β' (sp.enc z) { tmps := us, defers := [] } w2)
      (by rw [hap]; exact pU hM.1 _ _) (by
        rw [hap]
        refine hcall.mono ?_
        rintro e w2 (⟨z, vs, β', rfl, rfl, hs'⟩ | ⟨z, v, β', rfl, rfl, hs'⟩)
        · have hv : vs = [] := by
            have := hs'.size
            rw [(h1 z).2] at this
            simpa using this.symm
          subst hv
          exact ⟨zRv hs', .inl ⟨z, β', _, rfl, rfl, hs'⟩, .inl rfl⟩
        · obtain ⟨a, hz, hzr⟩ := h2 z
          have := hs'.reg 0 _ (by rw [hzr]; rfl)
          simp only [V.Rel, L.Rel, Ty.Rel, aK, and_true] at this
          have hc : v = .int .i64 a := by simpa using this
          subst hc
          exact ⟨zRv hs', .inr ⟨a, z, β', _, rfl, rfl, hz, hs'⟩, .inr ⟨a, rfl⟩⟩)
    refine hC.mono ?_
    have e0 : (w.alloc (.cells #[.int .i64 0] 36)).os = w.os := rfl
    have e1 : (w.alloc (.cells #[.int .i64 0] 36)).tape = w.tape := rfl
    have e2 : (w.alloc (.cells #[.int .i64 0] 36)).output = w.output := rfl
    rintro e w' ⟨e3, w2, hR, ⟨hb1, hb2, ho, ht, hou⟩, hend⟩
    have hk' : Keep (fun b _ => b = w.heap.size) w2 w' := Keep.qU (M := fun b => b = w.heap.size) hb1 (fun k hk hn => hb2 k hk hn) (fun _ _ h => h)
    rcases hR with ⟨z, β', vs, rfl, rfl, hs'⟩ | ⟨a, z, β', vs, rfl, rfl, hz, hs'⟩
    · have hend : e = .returned (.int .i64 0) := by
        rcases hend with ⟨_, h⟩ | ⟨a, h, _⟩
        · exact h
        · cases h
      subst hend
      obtain rfl := Option.some.inj hy
      have := Sim.zVc (aI _) (by rw [hsz]; omega) hs' hk' (ho.trans (hs'.heap.os.trans (e0.trans hos0))) (ht.trans (hs'.heap.tape.trans (e1.trans zVw))) (hou.trans (hs'.heap.output.trans (e2.trans zVx)))
      refine ⟨[.int .i64 0], β', rfl, ?_⟩
      rw [(h1 z).1]
      exact Vl this 0
    · have hend : e = .returned (.int .i64 a) := by
        rcases hend with ⟨h, _⟩ | ⟨b, h, h'⟩
        · cases h
        · injection h with h; injection h with h _; injection h with h _; injection h with _ h; injection h with _ h; subst h; exact h'
      subst hend
      obtain rfl := Option.some.inj hy
      have := Sim.zVc (aI _) (by rw [hsz]; omega) hs' hk' (ho.trans (hs'.heap.os.trans (e0.trans hos0))) (ht.trans (hs'.heap.tape.trans (e1.trans zVw))) (hou.trans (hs'.heap.output.trans (e2.trans zVx)))
      refine ⟨[.int .i64 a], β', rfl, ?_⟩
      rw [hz]
      exact Vl this a
end
end Go.Dec
namespace Go.Dec
open Go.Proofs Go.Ce
abbrev Ae:Sh:=⟨0,[],[]⟩
def Vm:List (MK × Nat):=[(.i .u8 123,69),(.i .u8 125,70),(.i .u8 58,71),(.i .u8 115,72),(.i .u8 121,73),(.i .u8 61,74),(.i .u8 100,74),(.i .u8 68,74),(.i .u8 103,74),(.i .u8 71,74),(.i .u8 104,74),(.i .u8 72,74),(.i .u8 110,74),(.i .u8 78,74),(.i .u8 112,74),(.i .u8 80,74),(.i .u8 120,74),(.i .u8 97,75),(.i .u8 105,75),(.i .u8 99,75),(.i .u8 98,76),(.i .u8 116,76),(.i .u8 84,76),(.i .u8 108,77),(.i .u8 113,77),(.i .u8 81,77),(.i .u8 114,78),(.i .u8 119,78)]
abbrev qI:Sh:=⟨1,[⟨0,false,[.mp 0]⟩],[.fm [(.i .u8 123,69),(.i .u8 125,70),(.i .u8 58,71),(.i .u8 115,72),(.i .u8 121,73),(.i .u8 61,74),(.i .u8 100,74),(.i .u8 68,74),(.i .u8 103,74),(.i .u8 71,74),(.i .u8 104,74),(.i .u8 72,74),(.i .u8 110,74),(.i .u8 78,74),(.i .u8 112,74),(.i .u8 80,74),(.i .u8 120,74),(.i .u8 97,75),(.i .u8 105,75),(.i .u8 99,75),(.i .u8 98,76),(.i .u8 116,76),(.i .u8 84,76),(.i .u8 108,77),(.i .u8 113,77),(.i .u8 81,77),(.i .u8 114,78),(.i .u8 119,78)]]⟩
def Bq:List (Nat × AV)->List (MK × Nat)
 | []=>[]
 | (m,.fn (.func f) [] []) :: r=>(.i .u8 (Int.ofNat m),f) :: Bq r
 | _ :: r=>Bq r
theorem zVy {ds:List (Nat × AV)} (h:∀ p ∈ ds,∃ f,p.2=.fn (.func f) [] []):∀ {m:Nat} {v:AV},lkN m ds=some v->∃ f,v=.fn (.func f) [] []∧fG (Bq ds) (.i .u8 (Int.ofNat m))=some f:=by
 induction ds with
 | nil=>intro m v hv; cases hv
 | cons p r ih =>
  intro m v hv
  obtain ⟨f,hf⟩:=h p (.head _)
  obtain ⟨k,u⟩:=p
  simp only at hf
  subst hf
  simp only [lkN] at hv
  simp only [Bq,fG,MK.beq]
  cases hb:Nat.beq m k with
  | true =>
   rw [hb] at hv
   simp only [cnd] at hv
   obtain rfl:=aG hb
   exact ⟨f,(Option.some.inj hv).symm,by simp⟩
  | false =>
   rw [hb] at hv
   simp only [cnd] at hv
   obtain ⟨g,h1,h2⟩:=ih (fun p hp=>h p (.tail _ hp)) hv
   refine ⟨g,h1,?_⟩
   have hne:¬ ((m:Int) == (k:Int))=true:=by
    intro e
    have:(m:Int)=(k:Int):=by simpa using e
    have:m=k:=by omega
    subst this
    simp at hb
   rw [if_neg]
   ·exact h2
   ·simpa using hne
theorem zVz {β:Bt} {ms:List MapEntry} {ds:List (Nat × AV)} {qE:List Nat} (hd:∀ p ∈ ds,∃ f,p.2=.fn (.func f) [] []) (hp:∀ p ∈ ds,p.1 ∈ qE)
  (h1:∀ e ∈ ms,∃ (m:Nat) (v:AV),e.key=.int .u8 (Int.ofNat m)∧lkN m ds=some v∧v.Rel β e.val) (h2:∀ m ∈ qE,∃ e ∈ ms,e.key=.int .u8 (Int.ofNat m)):Qn (Bq ds) ms:=by
 refine ⟨fun e he=>?_,fun q hq=>?_⟩
 ·obtain ⟨m,v,hk,hl,hr⟩:=h1 e he
  obtain ⟨f,rfl,hf⟩:=zVy hd hl
  obtain ⟨x,y,hv,hx,hy⟩:=hr
  simp only [AV.aN] at hx hy
  subst hx hy
  exact ⟨.i .u8 (Int.ofNat m),f,hk,hv,hf⟩
 ·have:∃ m ∈ qE,q.1=.i .u8 (Int.ofNat m):=by
   clear h1 h2
   induction ds with
   | nil=>cases hq
   | cons p r ih =>
    obtain ⟨f,hf⟩:=hd p (.head _)
    have hpm:=hp p (.head _)
    obtain ⟨k,u⟩:=p
    simp only at hf
    subst hf
    simp only [Bq,List.mem_cons] at hq
    rcases hq with rfl | hq
    ·exact ⟨k,hpm,rfl⟩
    ·exact ih (fun p hp'=>hd p (.tail _ hp')) (fun p hp'=>hp p (.tail _ hp')) hq
  obtain ⟨m,hm,e⟩:=this
  obtain ⟨x,hx,hk⟩:=h2 m hm
  exact ⟨x,hx,by rw [hk,e]; rfl⟩
theorem Mj (n:Nat):rA Tryz.prog 46 Ae qI (sH n):=by
 refine ⟨by kernel_rfl,fun x y hy C β w xs hP hkf hs=>?_⟩
 have henc:Ae.enc x=⟨[],[]⟩:=rfl
 rw [henc] at hs
 have hl:xs.length=0:=by have:=hs.size; simpa using this.symm
 obtain rfl:=List.length_eq_zero_iff.1 hl
 rcases Tryz.does_ok (E:=Tryz.E0) rfl 0 ⟨.nil,0⟩ (by decide) noB w [] (Gr w) rfl with ⟨_,hc⟩ | ⟨v,z,β2,w2,_,hbad,_⟩
 ·refine hc.mono fun e w' ⟨β2,hg,ho⟩=>?_
  obtain ⟨z,rfl,hz⟩:=ho
  obtain ⟨b,nn,hb,rfl⟩:=hz
  obtain ⟨b',o,n',hb2,hlt,hblk⟩:=hg.rel.blk 0 (.dict .u8 Tryz.Sd.ds Tryz.Sd.all) (by kernel_rfl)
  rw [hb] at hb2
  simp only [aA,aB] at hb2
  obtain ⟨rfl,rfl,rfl⟩:=hb2
  obtain ⟨_,ms,clk,hms,g1,g2⟩:=hblk
  have hnew:=hg.none_new hb
  have hold:=hg.none_old
  let p:Pl:=⟨true,true,0,some b,0,0,0,[]⟩
  have hk:Keep (fun _ _=>False) w w':=Keep.qU (M:=fun _=>False) hg.size (fun j hj _=>hold j hj) (fun _ _ h=>h)
  have hfm:Qn (Bq Tryz.Sd.ds) ms:=zVz (by
   intro p hp
   simp only [Tryz.Sd.ds,List.mem_cons,List.not_mem_nil,or_false] at hp
   rcases hp with rfl | rfl | rfl | rfl | rfl | rfl | rfl | rfl | rfl | rfl | rfl | rfl | rfl | rfl | rfl | rfl | rfl | rfl | rfl | rfl | rfl | rfl | rfl | rfl | rfl | rfl | rfl | rfl <;> exact ⟨_,rfl⟩) (by
   intro p hp
   have:(Tryz.Sd.ds.all fun p=>Tryz.Sd.all.any fun m=>Nat.beq m p.1)=true:=by kernel_rfl
   rw [List.all_eq_true] at this
   have:=this p hp
   rw [List.any_eq_true] at this
   obtain ⟨m,hm,e⟩:=this
   rwa [aG e] at hm) g1 g2
  have htab:Bq Tryz.Sd.ds=Vm:=by kernel_rfl
  have uT:=hs.Yv (o:=.fm Vm) (p:=p) (w':=w') (fun b' hb'=>by
   have:b'=b:=by
    have:=Ob.xV (o:=.fm Vm) rfl hb'
    simpa [p] using this.symm
   subst this
   exact ⟨hnew,hlt⟩) hk ⟨hg.os,hg.tape,hg.output⟩ (by
   simp only [Ob.Rel]
   exact ⟨rfl,rfl,b,ms.toArray,clk,rfl,hms,by simpa [htab] using hfm⟩)
  refine ⟨[.map (some b)],_,rfl,⟨uT.heap,rfl,by rw [show (qI.enc y).r=[.one (.mp 0)] from rfl]; rfl,fun i v hv=>?_⟩⟩
  cases i with
  | zero =>
   have hv:v=.one (.mp 0):=by
    have:(qI.enc y).r=[.one (.mp 0)]:=rfl
    rw [this] at hv
    simpa using hv.symm
   subst hv
   simp only [V.Rel,L.Rel]
   exact ⟨rfl,rfl,b,rfl,rfl⟩
  | succ i =>
   have:(qI.enc y).r=[.one (.mp 0)]:=rfl
   rw [this] at hv
   simp at hv
 ·have h2:=(pU (P:=Tryz.prog) (f:=46) (by kernel_rfl) #[] w).symm.trans hbad
  cases h2
end Go.Dec
namespace Go.Dec
open Go.Proofs
abbrev zDe:List Ty:=[]
abbrev zDf:List Ty:=[.bool]
theorem zDg (n:Nat):Pure Tryz.prog 13 zDe zDf (shown13 n):=Tryz.shown13
end Go.Dec
