import Derived.Deep.AppendSrc
import Derived.Test.YtfbilefiaminnaaGreatDoorProg
import Derived.WalkSmall
import Derived.RangeFuncRecord
import Derived.Test.YtfbilefiaminnaaGreatDoorPtrtAF
import Derived.Shelf.Strings.Builder1
open Go.Proofs.Tryz renaming prog->qEr
open Option.some renaming inj->qBc
open Array renaming getElem?_modify->qCv,replicate->qDy,getElem?_eq_some_iff->qCk
namespace Go.Proofs
open  Go.RowKit
theorem zJb{w:World}{b i:Nat}{cs:Array Value}{t:TypeId}{f:Nat × Nat}{v:Value}(h:w.heap[b]?=some (.cells cs t f)):(w.setCell ⟨b,i,none⟩ v).heap[b]?=some (.cells (cs.setIfInBounds i v) t f):=by
 unfold World.setCell;rw[qCv,if_pos rfl,h];rfl
theorem zFc{w:World}{b i k:Nat}{v:Value}(h:k≠b):(w.setCell ⟨b,i,none⟩ v).heap[k]?=w.heap[k]?:=by
 unfold World.setCell;rw[qCv,if_neg (λe=>h e.symm)]
def zVq(b:Nat)(w w':World):Prop:=w.heap.size<=w'.heap.size/\(∀ k,k<w.heap.size->k≠b->w'.heap[k]?=w.heap[k]?)/\w'.os=w.os/\w'.tape=w.tape/\w'.output=w.output
theorem Tryz.catch_idle(p:Addr)(w:World):CallsD qEr 47 #[.pointer (some p)] .returning w λe u' w'=>e=.returned (.tuple #[])/\u'=.returning/\w'=w:=by
 refine callsD_of_wpS Tryz.func47 rfl λc₀ cs hu=>?_
 apply wpS_seq;apply wpS_region;simp[wpOpsS,go_sem,recoverD,hu,Tryz.ntmps47,Exit.thenS];have e:∀ (x y:Value),(#[x]++(qDy 10 undef).setIfInBounds 3 y:Array Value)=#[x,undef,undef,undef,y,undef,undef,undef,undef,undef,undef]:=λ_ _=>rfl
 rw[e];refine wpS_of_wp ?_
 go_wp2
 cases c₀;simp_all[bodyPostS,results,Tryz.results47]
set_option maxRecDepth 100000 in
theorem Tryz.catch_panicking(pb:Nat)(k:IntKind)(a:Int)(older:List PanicEntry)(w:World)(hc:w.heap[pb]?=some (.cells #[.int .i64 0] 57 (0,0))):CallsD qEr 47 #[.pointer (some ⟨pb,0,none⟩)] (.panicking ({ v:=.iface 57 (.int .i64 a),recovered:=false }::older)) w λe u' w' =>
  e=.returned (.tuple #[])/\u'=.panicking ({ v:=.iface 57 (.int .i64 a),recovered:=true }::older)/\w'.heap[pb]?=some (.cells #[.int .i64 a] 57 (0,0))/\zVq pb w w':=by
 refine callsD_of_wpS Tryz.func47 rfl λc₀ cs hu=>?_
 apply wpS_seq;apply wpS_region;simp[wpOpsS,go_sem,recoverD,hu,Tryz.ntmps47,Exit.thenS];have e:∀ (x y:Value),(#[x]++(qDy 10 undef).setIfInBounds 3 y:Array Value)=#[x,undef,undef,undef,y,undef,undef,undef,undef,undef,undef]:=λ_ _=>rfl
 rw[e];refine wpS_of_wp ?_;have hta:∀ (v:Value) (w:World),(Instr.typeAssert (.iface 57 v) 20 57 true).run qEr w=.ok (.tuple #[v,.bool true]) w:=λ_ _=>by kernel_rfl
 have hlt:pb<w.heap.size:=(qCk.1 hc).1;have hc0:w.cell? ⟨pb,0,none⟩=some (.int .i64 0):=by simp[World.cell?,hc]
 have hz0:w.frozen? ⟨pb,0,none⟩=false:=by simp[World.frozen?,hc]
 go_wp2
 have hs1:=zJb (i:=0) (v:=.int .i64 a) hc;have hs3:∀ k,k≠pb->(w.setCell ⟨pb,0,none⟩ (.int .i64 a)).heap[k]?=w.heap[k]?:=λk hk=>zFc hk
 have hs4:(w.setCell ⟨pb,0,none⟩ (.int .i64 a)).heap.size=w.heap.size:=by simp
 have hs5:(w.setCell ⟨pb,0,none⟩ (.int .i64 a)).heap[pb]?=some (.cells #[.int .i64 a] 57 (0,0)):=hs1;have hb:zVq pb w (w.setCell ⟨pb,0,none⟩ (.int .i64 a)):=⟨Nat.le_of_eq hs4.symm,λk _ hk=>hs3 k hk,rfl,rfl,rfl⟩;clear hs1 hs3 hs4 hc0 hz0 hta;generalize w.setCell ⟨pb,0,none⟩ (.int .i64 a)=W at *;cases c₀;simp[bodyPostS,results,Tryz.results47,hs5,hb,go_sem]
theorem Tryz.tried_calls{g:FuncId}{first caps:Array Value}{w:World}(eg:(callFunc g (first++caps)).run qEr (w.alloc (.cells #[.int .i64 0] 57))=.ok (.enter g (first++caps)) (w.alloc (.cells #[.int .i64 0] 57))){R:Ending->World->Prop}(hg:Calls qEr g (first++caps) (w.alloc (.cells #[.int .i64 0] 57)) λe w2=>w2.heap[w.heap.size]?=some (.cells #[.int .i64 0] 57 (0,0))/\R e w2/\(e=.returned (.tuple #[])\/∃ a,e=.panicked [{ v:=.iface 57 (.int .i64 a),recovered:=false }])):Calls qEr 29 #[.func (.func g) first caps] w λe w'=>∃ e2 w2,R e2 w2/\zVq w.heap.size w2 w'/\((e2=.returned (.tuple #[])/\e=.returned (.int .i64 0))\/∃ a,e2=.panicked [{ v:=.iface 57 (.int .i64 a),recovered:=false }]/\e=.returned (.int .i64 a)):=by
 have hmf:∀ (fn:Fn) (first cap:Array Value) (w:World),(Instr.makeFunc fn first cap).run qEr w=.ok (.func fn first cap) w:=λ_ _ _ _=>rfl
 go_enter_defers Tryz.func29,Tryz.ntmps29
 go_wp2
 refine hg.mono ?_;rintro e w2 ⟨hb,hR,(rfl|⟨a,rfl⟩)⟩
 ·have hlt:w.heap.size<w2.heap.size:=(qCk.1 hb).1;have hc0:w2.cell? ⟨w.heap.size,0,none⟩=some (.int .i64 0):=by simp[World.cell?,hb]
  have hz0:w2.frozen? ⟨w.heap.size,0,none⟩=false:=by simp[World.frozen?,hb]
  have hs1:=zJb (i:=0) (v:=.int .i64 0) hb;have hs3:∀ k,k≠w.heap.size->(w2.setCell ⟨w.heap.size,0,none⟩ (.int .i64 0)).heap[k]?=w2.heap[k]?:=λk hk=>zFc hk
  have hs4:(w2.setCell ⟨w.heap.size,0,none⟩ (.int .i64 0)).heap.size=w2.heap.size:=by simp
  have hbo:zVq w.heap.size w2 (w2.setCell ⟨w.heap.size,0,none⟩ (.int .i64 0)):=⟨Nat.le_of_eq hs4.symm,λk _ hk=>hs3 k hk,rfl,rfl,rfl⟩
  go_wp2
  clear hs3 hs4 hc0 hz0;generalize w2.setCell ⟨w.heap.size,0,none⟩ (.int .i64 0)=W at *;have hd0:W.cell? ⟨w.heap.size,0,none⟩=some (.int .i64 0):=by simp[World.cell?,hs1]
  refine leaves_cons (f:=47) (args:=#[.pointer (some ⟨w.heap.size,0,none⟩)]) (by simp) (by simp[go_sem,Tryz.call47]) ?_;refine(Tryz.catch_idle ⟨w.heap.size,0,none⟩ _).mono ?_;rintro e u' w'' ⟨rfl,rfl,rfl⟩;simp[Leaves,settle,results,Tryz.results29,go_sem,hd0];exact⟨_,w2,hR,hbo,by simp⟩
 ·refine leaves_cons (f:=47) (args:=#[.pointer (some ⟨w.heap.size,0,none⟩)]) (by simp) (by simp[go_sem,Tryz.call47]) ?_;refine(Tryz.catch_panicking w.heap.size .i64 a [] w2 hb).mono ?_;rintro e u' w'' ⟨rfl,rfl,hb2,hbo⟩;have hd0:w''.cell? ⟨w.heap.size,0,none⟩=some (.int .i64 a):=by simp[World.cell?,hb2]
  simp[Leaves,settle,results,Tryz.results29,go_sem,hd0];exact⟨_,w2,hR,hbo,by simp⟩
end Go.Proofs
namespace Go.Dec
open Go.Proofs Go.RowKit
theorem yKb(e0:Int)(w:World):Calls qEr 52 #[.int .i64 e0] w λe w'=>e=.panicked [{ v:=.iface 57 (.int .i64 e0),recovered:=false }]/\w'=w:=by
 go_enter Tryz.func52,Tryz.ntmps52
 go_wp2
 exact⟨rfl,rfl,rfl⟩
section
variable {si so sp sd od:Sh}
theorem zYu{C:Ctx}{β:Nat->Pl}{w:World}{σ:St}{a:Act}(h:Sim C β σ a w)(x:Int):Sim C β ⟨[.one (.val (.int .i64) x)],σ.h⟩ { tmps:=#[.int .i64 x],defers:=[] } w:=by
 refine⟨h.heap,rfl,rfl,λi u hu=>?_⟩;cases i with
 |zero =>
  simp only[List.getElem?_cons_zero,aA]at hu;subst hu;simp only[V.Rel,L.Rel,Ty.Rel];rfl
 |succ i=>simp at hu
theorem yKc{F:si.X->Option (Sum so.X sp.X)}(hF:∀ x,∃ a z,F x=some (.inr z)/\sp.enc z=⟨[.one (.val (.int .i64) a)],(si.enc x).h⟩/\(si.enc x).r=[.one (.val (.int .i64) a)]):dA qEr 52 si so 57 sp F:=by
 refine⟨by kernel_rfl,λx y hy C β w xs hP hkf hs=>?_⟩;obtain⟨a,z,hz,he,hr⟩:=hF x;rw[hz]at hy;obtain rfl:=qBc hy;have hl:xs.length=1:=by have:=hs.size;rw[hr]at this;simpa using this.symm
 obtain⟨u,rfl⟩:=List.length_eq_one_iff.1 hl;have h1:=hs.reg 0 (.one (.val (.int .i64) a)) (by rw[hr];rfl);simp only[V.Rel,L.Rel,Ty.Rel,aL,and_true]at h1;simp at h1;subst h1;refine(yKb a w).mono ?_;rintro e w' ⟨rfl,rfl⟩;refine .inr ⟨z,_,β,rfl,rfl,?_⟩;rw[he];exact zYu hs a
theorem yGq {g : FuncId} {c : L} {caps : List L} {F : sd.X -> Option (Sum od.X sp.X)} {G : si.X -> Option so.X} {conv : si.X -> sd.X} {o1 : od.X -> so.X} {o2 : sp.X -> so.X} (hM : dA qEr g sd od 57 sp F) (hos : sd.os.length = si.os.length)
    (hin : ∀ x, si.enc x = ⟨[.one (.clo (g + 1000000) (c :: caps))], (sd.enc (conv x)).h⟩ ∧ (sd.enc (conv x)).r = (c :: caps).map V.one)
    (hG : ∀ x, G x = match F (conv x) with | some (.inl y) => some (o1 y) | some (.inr z) => some (o2 z) | none => none)
    (h1 : ∀ y, so.enc (o1 y) = ⟨[.one (.val (.int .i64) 0)], (od.enc y).h⟩ ∧ (od.enc y).r = [])
    (h2 : ∀ z, ∃ a, so.enc (o2 z) = ⟨[.one (.val (.int .i64) a)], (sp.enc z).h⟩ ∧ (sp.enc z).r = [.one (.val (.int .i64) a)]) :
    dV qEr 29 si so G := by
  refine ⟨by kernel_rfl, fun x y hy C β w xs hP hkf hs => ?_⟩;obtain ⟨he, hr⟩ := hin x;rw [hG] at hy;rw [he] at hs;have hl : xs.length = 1 := by have := hs.size; simpa using this.symm
  obtain ⟨u, rfl⟩ := List.length_eq_one_iff.1 hl;have hu := hs.reg 0 _ rfl;simp only [V.Rel, L.Rel] at hu;obtain ⟨us, hu, hcap⟩ := hu;obtain ⟨u0, ur, rfl⟩ : ∃ u0 ur, us = u0 :: ur := by
    simp only [L.eG] at hcap;obtain ⟨u0, ur, e, _⟩ := hcap;exact ⟨u0, ur, e⟩
  rw [zUa] at hu;have hu : u = .func (.func g) (u0 :: ur).toArray #[] := by simpa using hu
  subst hu;have hargs := Nf hcap;generalize u0 :: ur = us at *;have hsd : Sim C β (sd.enc (conv x)) { tmps := us.toArray, defers := [] } w := by
    have e : sd.enc (conv x) = ⟨(c :: caps).map V.one, (sd.enc (conv x)).h⟩ := by rw [<- hr]
    rw [e];refine ⟨hs.heap, rfl, by simpa using hargs.length, fun i v hv => ?_⟩;have hi := (bK.1 hv).1;have hi' : i < us.length := by rw [<- hargs.length]; exact hi
    have := hargs.get i hi hi';rw [(bK.1 hv).2] at this;have e2 : (us.toArray).getD i undef = us[i] := by simp [hi']
    rw [e2];exact this
  have hk : Keep (fun _ _ => False) w (w.alloc (.cells #[.int .i64 0] 57)) := Keep.mZ (M := fun _ => False) (by simp) (fun k hk _ => Below.heap_alloc _ _ k hk) (fun _ _ h => h);have hsz : (w.alloc (.cells #[.int .i64 0] 57)).heap.size = w.heap.size + 1 := by simp
  have hnew : (w.alloc (.cells #[.int .i64 0] 57)).heap[w.heap.size]? = some (.cells #[.int .i64 0] 57 (0, 0)) := World.alloc_heap_new _ _;have hsN := hsd.inN hk (aS _) (by rw [hsz]; omega);cases hFx : F (conv x) with
  | none => rw [hFx] at hy; cases hy
  | some r =>
    rw [hFx] at hy;have hcall := hM.2 (conv x) r hFx _ β _ us (by exact hP) (by rw [hos]; exact hkf) hsN;have zBu : ∀ {β' : Nat -> Pl} {σ' : St} {a' : Act} {w2 : World}, Sim (Uy C β (sd.enc (conv x)).h w (w.alloc (.cells #[.int .i64 0] 57)) w.heap.size hsd.heap hk) β' σ' a' w2 -> w2.heap[w.heap.size]? = some (.cells #[.int .i64 0] 57 (0, 0)) := fun h => by
      rw [h.heap.frame.block _ (by show _ < (w.alloc _).heap.size; rw [hsz]; omega) (fun j hm => ?_)]
      · exact hnew
      · obtain ⟨i, o, ho, _, hb⟩ := hm;have := (hsd.heap.eZ i o _ ho ⟨_, hb⟩).2.1;omega
    have hos0 := hs.heap.os;have yGo := hs.heap.tape;have yGp := hs.heap.output;have hap : us.toArray ++ #[] = us.toArray := by simp
    have hC := Tryz.tried_calls (w := w) (g := g) (first := us.toArray) (caps := #[])
      (R := fun e w2 => (∃ y β' us, e = .returned (.tuple #[]) ∧ r = .inl y ∧ Sim (Uy C β (sd.enc (conv x)).h w (w.alloc (.cells #[.int .i64 0] 57)) w.heap.size hsd.heap hk) β' (od.enc y) { tmps := us, defers := [] } w2) ∨
        ∃ a z β' us, e = .panicked [{ v := .iface 57 (.int .i64 a), recovered := false }] ∧ r = .inr z ∧ so.enc (o2 z) = ⟨[.one (.val (.int .i64) a)], (sp.enc z).h⟩ ∧ Sim (Uy C β (sd.enc (conv x)).h w (w.alloc (.cells #[.int .i64 0] 57)) w.heap.size hsd.heap hk) β' (sp.enc z) { tmps := us, defers := [] } w2)
      (by rw [hap]; exact zW hM.1 _ _) (by
        rw [hap];refine hcall.mono ?_;rintro e w2 (⟨z, vs, β', rfl, rfl, hs'⟩ | ⟨z, v, β', rfl, rfl, hs'⟩)
        · have hv : vs = [] := by
            have := hs'.size;rw [(h1 z).2] at this;simpa using this.symm
          subst hv;exact ⟨zBu hs', .inl ⟨z, β', _, rfl, rfl, hs'⟩, .inl rfl⟩
        · obtain ⟨a, hz, hzr⟩ := h2 z;have := hs'.reg 0 _ (by rw [hzr]; rfl);simp only [V.Rel, L.Rel, Ty.Rel, aL, and_true] at this;have hc : v = .int .i64 a := by simpa using this
          subst hc;exact ⟨zBu hs', .inr ⟨a, z, β', _, rfl, rfl, hz, hs'⟩, .inr ⟨a, rfl⟩⟩)
    refine hC.mono ?_;have e0 : (w.alloc (.cells #[.int .i64 0] 57)).os = w.os := rfl;have e1 : (w.alloc (.cells #[.int .i64 0] 57)).tape = w.tape := rfl;have e2 : (w.alloc (.cells #[.int .i64 0] 57)).output = w.output := rfl;rintro e w' ⟨e3, w2, hR, ⟨hb1, hb2, ho, ht, hou⟩, hend⟩;have hk' : Keep (fun b _ => b = w.heap.size) w2 w' := Keep.mZ (M := fun b => b = w.heap.size) hb1 (fun k hk hn => hb2 k hk hn) (fun _ _ h => h);rcases hR with ⟨z, β', vs, rfl, rfl, hs'⟩ | ⟨a, z, β', vs, rfl, rfl, hz, hs'⟩
    · have hend : e = .returned (.int .i64 0) := by
        rcases hend with ⟨_, h⟩ | ⟨a, h, _⟩
        · exact h
        · cases h
      subst hend;obtain rfl := qBc hy;have := Sim.yPb (aS _) (by rw [hsz]; omega) hs' hk' (ho.trans (hs'.heap.os.trans (e0.trans hos0))) (ht.trans (hs'.heap.tape.trans (e1.trans yGo))) (hou.trans (hs'.heap.output.trans (e2.trans yGp)));refine ⟨[.int .i64 0], β', rfl, ?_⟩;rw [(h1 z).1];exact zYu this 0
    · have hend : e = .returned (.int .i64 a) := by
        rcases hend with ⟨h, _⟩ | ⟨b, h, h'⟩
        · cases h
        · injection h with h; injection h with h _; injection h with h _; injection h with _ h; injection h with _ h; subst h; exact h'
      subst hend;obtain rfl := qBc hy;have := Sim.yPb (aS _) (by rw [hsz]; omega) hs' hk' (ho.trans (hs'.heap.os.trans (e0.trans hos0))) (ht.trans (hs'.heap.tape.trans (e1.trans yGo))) (hou.trans (hs'.heap.output.trans (e2.trans yGp)));refine ⟨[.int .i64 a], β', rfl, ?_⟩;rw [hz];exact zYu this a
end
end Go.Dec
namespace Go.Proofs
open  Go.RowKit
theorem Tryz.infoBld:(qEr.info? 195).map (λi=>(i.zero,i.size,i.bytes))=some (some (.agg #[.pointer none,.slice none 0 0]),2,32):=by kernel_rfl
set_option maxHeartbeats 1000000 in
set_option maxRecDepth 100000 in
theorem Tryz.check_used(b:Nat)(w:World)(h0:w.cell? ⟨b,0,none⟩=some (.pointer (some ⟨b,0,none⟩))):Calls qEr 144 #[.pointer (some ⟨b,0,none⟩)] w λe w'=>e=.returned (.tuple #[])/\w'=w:=by
 obtain⟨j,hj,_⟩:=info_parts Tryz.infoBld
 go_enter Tryz.func144,Tryz.ntmps144
 go_wp2
 rw[Lib.run_neq_ptr_same w _ Tryz.underlying193 hj]
 go_wp2
 go_end0
 exact⟨rfl,rfl⟩
set_option maxHeartbeats 1000000 in
set_option maxRecDepth 100000 in
theorem Tryz.check_fresh(b:Nat)(w:World)(h0:w.cell? ⟨b,0,none⟩=some (.pointer none))(hsh:w.shape? b=some (195,2))(hfz:w.frozen? ⟨b,0,none⟩=false):Calls qEr 144 #[.pointer (some ⟨b,0,none⟩)] w λe w'=>e=.returned (.tuple #[])/\w'=w.setCell ⟨b,0,none⟩ (.pointer (some ⟨b,0,none⟩)):=by
 obtain⟨j,hj,_,hjs,_⟩:=info_parts Tryz.infoBld
 go_enter Tryz.func144,Tryz.ntmps144
 go_wp2
 rw[Lib.run_to_unsafe w ⟨b,0,none⟩ Tryz.underlying193 Tryz.underlying251 hj (by rw[hjs];decide) hsh (Nat.zero_lt_succ 1)];simp only[Result.andThen];rw[Oper.upon_value]
 go_wp2
 rw[run_callFunc_extern Tryz.func179 (by kernel_rfl) (by kernel_rfl) (by kernel_rfl) (e:=Extern.AbiNoEscape.same) (by kernel_rfl)];rw[Lib.run_noEscape];simp only[Result.andThen];rw[Oper.upon_value]
 go_wp2
 rw[Lib.run_from_unsafe w ⟨b,0,none⟩ Tryz.underlying251 Tryz.underlying193 hj hsh (by kernel_rfl)];simp only[Result.andThen];rw[Oper.upon_value]
 go_wp2
 go_end0
 exact⟨rfl,rfl⟩
end Go.Proofs
