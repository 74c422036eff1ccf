/- Part of a proof over this seat: a library of my own, and what it says of this seat. No statement is proved here. -/
import Derived.Calls
import Derived.Laws.AppendOwn
import Derived.Test.YtfbilefiaminnaaGreatDoorPartAC
import Derived.Laws.IdiomCopy
import Derived.Deep.AppendSrc
import Derived.Laws.BytesString
import Derived.Lib.ConvBytes
import Derived.Test.YtfbilefiaminnaaGreatDoorPartAD
import Derived.Orders
import Derived.Scope
import Derived.Maps.RangeRun
import Derived.Lib.Bytealg
import Derived.Test.YtfbilefiaminnaaGreatDoorProg
import Derived.WalkKit
import Derived.WalkSmall
import Derived.KernelRfl
import Derived.Defers
import Derived.Recover
import Derived.Laws.Pointers
import Derived.RangeFuncRecord
import Derived.Test.YtfbilefiaminnaaGreatDoorPartAK
import Derived.Lib.UnsafeStr
import Derived.Lib.MakeNoZero
import Derived.Shelf.Strings.Builder1
import Derived.Test.YtfbilefiaminnaaGreatDoorPartAN
namespace Go.Proofs
open  Go.RowKit
theorem zFm{w:World}{b i:Nat}{cs:Array Value}{t:TypeId}{f:Nat × Nat}{v:Value}(h:w.heap[b]?=some (.cells cs t f)):(w.setCell ⟨b,i,none⟩ v).heap[b]?=some (.cells (cs.setIfInBounds i v) t f):=by
 unfold World.setCell;rw[Array.getElem?_modify,if_pos rfl,h];rfl
theorem zBv{w:World}{b i k:Nat}{v:Value}(h:k≠b):(w.setCell ⟨b,i,none⟩ v).heap[k]?=w.heap[k]?:=by
 unfold World.setCell;rw[Array.getElem?_modify,if_neg (λe=>h e.symm)]
def zQf(b:Nat)(w w':World):Prop:=w.heap.size<=w'.heap.size/\(∀ k,k<w.heap.size->k≠b->w'.heap[k]?=w.heap[k]?)/\w'.os=w.os/\w'.tape=w.tape/\w'.output=w.output
theorem Tryz.catch_idle(p:Addr)(w:World):CallsD Tryz.prog 47 #[.pointer (some p)] .returning w λe u' w'=>e=.returned (.tuple #[])/\u'=.returning/\w'=w:=by
 refine callsD_of_wpS Tryz.func47 rfl λc₀ cs hu=>?_
 apply wpS_seq;apply wpS_region;simp[wpOpsS,go_sem,recoverD,hu,Tryz.ntmps47,Exit.thenS];have e:∀ (x y:Value),(#[x]++(Array.replicate 10 undef).setIfInBounds 3 y:Array Value)=#[x,undef,undef,undef,y,undef,undef,undef,undef,undef,undef]:=λ_ _=>rfl
 rw[e];refine wpS_of_wp ?_
 go_wp2
 cases c₀;simp_all[bodyPostS,results,Tryz.results47]
set_option maxRecDepth 100000 in
theorem Tryz.catch_panicking(pb:Nat)(k:IntKind)(a:Int)(older:List PanicEntry)(w:World)(hc:w.heap[pb]?=some (.cells #[.int .i64 0] 57 (0,0))):CallsD Tryz.prog 47 #[.pointer (some ⟨pb,0,none⟩)] (.panicking ({ v:=.iface 57 (.int .i64 a),recovered:=false }::older)) w λe u' w' =>
  e=.returned (.tuple #[])/\u'=.panicking ({ v:=.iface 57 (.int .i64 a),recovered:=true }::older)/\w'.heap[pb]?=some (.cells #[.int .i64 a] 57 (0,0))/\zQf pb w w':=by
 refine callsD_of_wpS Tryz.func47 rfl λc₀ cs hu=>?_
 apply wpS_seq;apply wpS_region;simp[wpOpsS,go_sem,recoverD,hu,Tryz.ntmps47,Exit.thenS];have e:∀ (x y:Value),(#[x]++(Array.replicate 10 undef).setIfInBounds 3 y:Array Value)=#[x,undef,undef,undef,y,undef,undef,undef,undef,undef,undef]:=λ_ _=>rfl
 rw[e];refine wpS_of_wp ?_;have hta:∀ (v:Value) (w:World),(Instr.typeAssert (.iface 57 v) 20 57 true).run Tryz.prog w=.ok (.tuple #[v,.bool true]) w:=λ_ _=>by kernel_rfl
 have hlt:pb<w.heap.size:=(Array.getElem?_eq_some_iff.1 hc).1;have hc0:w.cell? ⟨pb,0,none⟩=some (.int .i64 0):=by simp[World.cell?,hc]
 have hz0:w.frozen? ⟨pb,0,none⟩=false:=by simp[World.frozen?,hc]
 go_wp2
 have hs1:=zFm (i:=0) (v:=.int .i64 a) hc;have hs3:∀ k,k≠pb->(w.setCell ⟨pb,0,none⟩ (.int .i64 a)).heap[k]?=w.heap[k]?:=λk hk=>zBv hk
 have hs4:(w.setCell ⟨pb,0,none⟩ (.int .i64 a)).heap.size=w.heap.size:=by simp
 have hs5:(w.setCell ⟨pb,0,none⟩ (.int .i64 a)).heap[pb]?=some (.cells #[.int .i64 a] 57 (0,0)):=hs1;have hb:zQf pb w (w.setCell ⟨pb,0,none⟩ (.int .i64 a)):=⟨Nat.le_of_eq hs4.symm,λk _ hk=>hs3 k hk,rfl,rfl,rfl⟩;clear hs1 hs3 hs4 hc0 hz0 hta;generalize w.setCell ⟨pb,0,none⟩ (.int .i64 a)=W at *;cases c₀;simp[bodyPostS,results,Tryz.results47,hs5,hb,go_sem]
theorem Tryz.tried_calls{g:FuncId}{first caps:Array Value}{w:World}(eg:(callFunc g (first++caps)).run Tryz.prog (w.alloc (.cells #[.int .i64 0] 57))=.ok (.enter g (first++caps)) (w.alloc (.cells #[.int .i64 0] 57))){R:Ending->World->Prop}(hg:Calls Tryz.prog g (first++caps) (w.alloc (.cells #[.int .i64 0] 57)) λe w2=>w2.heap[w.heap.size]?=some (.cells #[.int .i64 0] 57 (0,0))/\R e w2/\(e=.returned (.tuple #[])\/∃ a,e=.panicked [{ v:=.iface 57 (.int .i64 a),recovered:=false }])):Calls Tryz.prog 29 #[.func (.func g) first caps] w λe w'=>∃ e2 w2,R e2 w2/\zQf w.heap.size w2 w'/\((e2=.returned (.tuple #[])/\e=.returned (.int .i64 0))\/∃ a,e2=.panicked [{ v:=.iface 57 (.int .i64 a),recovered:=false }]/\e=.returned (.int .i64 a)):=by
 have hmf:∀ (fn:Fn) (first cap:Array Value) (w:World),(Instr.makeFunc fn first cap).run Tryz.prog w=.ok (.func fn first cap) w:=λ_ _ _ _=>rfl
 go_enter_defers Tryz.func29,Tryz.ntmps29
 go_wp2
 refine hg.mono ?_;rintro e w2 ⟨hb,hR,(rfl|⟨a,rfl⟩)⟩
 ·have hlt:w.heap.size<w2.heap.size:=(Array.getElem?_eq_some_iff.1 hb).1;have hc0:w2.cell? ⟨w.heap.size,0,none⟩=some (.int .i64 0):=by simp[World.cell?,hb]
  have hz0:w2.frozen? ⟨w.heap.size,0,none⟩=false:=by simp[World.frozen?,hb]
  have hs1:=zFm (i:=0) (v:=.int .i64 0) hb;have hs3:∀ k,k≠w.heap.size->(w2.setCell ⟨w.heap.size,0,none⟩ (.int .i64 0)).heap[k]?=w2.heap[k]?:=λk hk=>zBv hk
  have hs4:(w2.setCell ⟨w.heap.size,0,none⟩ (.int .i64 0)).heap.size=w2.heap.size:=by simp
  have hbo:zQf w.heap.size w2 (w2.setCell ⟨w.heap.size,0,none⟩ (.int .i64 0)):=⟨Nat.le_of_eq hs4.symm,λk _ hk=>hs3 k hk,rfl,rfl,rfl⟩
  go_wp2
  clear hs3 hs4 hc0 hz0;generalize w2.setCell ⟨w.heap.size,0,none⟩ (.int .i64 0)=W at *;have hd0:W.cell? ⟨w.heap.size,0,none⟩=some (.int .i64 0):=by simp[World.cell?,hs1]
  refine leaves_cons (f:=47) (args:=#[.pointer (some ⟨w.heap.size,0,none⟩)]) (by simp) (by simp[go_sem,Tryz.call47]) ?_;refine(Tryz.catch_idle ⟨w.heap.size,0,none⟩ _).mono ?_;rintro e u' w'' ⟨rfl,rfl,rfl⟩;simp[Leaves,settle,results,Tryz.results29,go_sem,hd0];exact⟨_,w2,hR,hbo,by simp⟩
 ·refine leaves_cons (f:=47) (args:=#[.pointer (some ⟨w.heap.size,0,none⟩)]) (by simp) (by simp[go_sem,Tryz.call47]) ?_;refine(Tryz.catch_panicking w.heap.size .i64 a [] w2 hb).mono ?_;rintro e u' w'' ⟨rfl,rfl,hb2,hbo⟩;have hd0:w''.cell? ⟨w.heap.size,0,none⟩=some (.int .i64 a):=by simp[World.cell?,hb2]
  simp[Leaves,settle,results,Tryz.results29,go_sem,hd0];exact⟨_,w2,hR,hbo,by simp⟩
end Go.Proofs
namespace Go.Dec
open Go.Proofs Go.RowKit
theorem yEt(e0:Int)(w:World):Calls Tryz.prog 52 #[.int .i64 e0] w λe w'=>e=.panicked [{ v:=.iface 57 (.int .i64 e0),recovered:=false }]/\w'=w:=by
 go_enter Tryz.func52,Tryz.ntmps52
 go_wp2
 exact⟨rfl,rfl,rfl⟩
section
variable {si so sp sd od:Sh}
theorem zTk{C:Ctx}{β:Nat->Pl}{w:World}{σ:St}{a:Act}(h:Sim C β σ a w)(x:Int):Sim C β ⟨[.one (.val (.int .i64) x)],σ.h⟩ { tmps:=#[.int .i64 x],defers:=[] } w:=by
 refine⟨h.heap,rfl,rfl,λi u hu=>?_⟩;cases i with
 |zero =>
  simp only[List.getElem?_cons_zero,aA]at hu;subst hu;simp only[V.Rel,L.Rel,Ty.Rel];rfl
 |succ i=>simp at hu
theorem yEu{F:si.X->Option (Sum so.X sp.X)}(hF:∀ x,∃ a z,F x=some (.inr z)/\sp.enc z=⟨[.one (.val (.int .i64) a)],(si.enc x).h⟩/\(si.enc x).r=[.one (.val (.int .i64) a)]):cK Tryz.prog 52 si so 57 sp F:=by
 refine⟨by kernel_rfl,λx y hy C β w xs hP hkf hs=>?_⟩;obtain⟨a,z,hz,he,hr⟩:=hF x;rw[hz]at hy;obtain rfl:=Option.some.inj hy;have hl:xs.length=1:=by have:=hs.size;rw[hr]at this;simpa using this.symm
 obtain⟨u,rfl⟩:=List.length_eq_one_iff.1 hl;have h1:=hs.reg 0 (.one (.val (.int .i64) a)) (by rw[hr];rfl);simp only[V.Rel,L.Rel,Ty.Rel,aJ,and_true]at h1;simp at h1;subst h1;refine(yEt a w).mono ?_;rintro e w' ⟨rfl,rfl⟩;refine .inr ⟨z,_,β,rfl,rfl,?_⟩;rw[he];exact zTk hs a
theorem yBo {g : FuncId} {c : L} {caps : List L} {F : sd.X -> Option (Sum od.X sp.X)} {G : si.X -> Option so.X} {conv : si.X -> sd.X} {o1 : od.X -> so.X} {o2 : sp.X -> so.X} (hM : cK Tryz.prog g sd od 57 sp F) (hos : sd.os.length = si.os.length)
    (hin : ∀ x, si.enc x = ⟨[.one (.clo (g + 1000000) (c :: caps))], (sd.enc (conv x)).h⟩ ∧ (sd.enc (conv x)).r = (c :: caps).map V.one)
    (hG : ∀ x, G x = match F (conv x) with | some (.inl y) => some (o1 y) | some (.inr z) => some (o2 z) | none => none)
    (h1 : ∀ y, so.enc (o1 y) = ⟨[.one (.val (.int .i64) 0)], (od.enc y).h⟩ ∧ (od.enc y).r = [])
    (h2 : ∀ z, ∃ a, so.enc (o2 z) = ⟨[.one (.val (.int .i64) a)], (sp.enc z).h⟩ ∧ (sp.enc z).r = [.one (.val (.int .i64) a)]) :
    dV Tryz.prog 29 si so G := by
  refine ⟨by kernel_rfl, fun x y hy C β w xs hP hkf hs => ?_⟩;obtain ⟨he, hr⟩ := hin x;rw [hG] at hy;rw [he] at hs;have hl : xs.length = 1 := by have := hs.size; simpa using this.symm
  obtain ⟨u, rfl⟩ := List.length_eq_one_iff.1 hl;have hu := hs.reg 0 _ rfl;simp only [V.Rel, L.Rel] at hu;obtain ⟨us, hu, hcap⟩ := hu;obtain ⟨u0, ur, rfl⟩ : ∃ u0 ur, us = u0 :: ur := by
    simp only [L.eD] at hcap;obtain ⟨u0, ur, e, _⟩ := hcap;exact ⟨u0, ur, e⟩
  rw [zOr] at hu;have hu : u = .func (.func g) (u0 :: ur).toArray #[] := by simpa using hu
  subst hu;have hargs := Lb hcap;generalize u0 :: ur = us at *;have hsd : Sim C β (sd.enc (conv x)) { tmps := us.toArray, defers := [] } w := by
    have e : sd.enc (conv x) = ⟨(c :: caps).map V.one, (sd.enc (conv x)).h⟩ := by rw [<- hr]
    rw [e];refine ⟨hs.heap, rfl, by simpa using hargs.length, fun i v hv => ?_⟩;have hi := (bE.1 hv).1;have hi' : i < us.length := by rw [<- hargs.length]; exact hi
    have := hargs.get i hi hi';rw [(bE.1 hv).2] at this;have e2 : (us.toArray).getD i undef = us[i] := by simp [hi']
    rw [e2];exact this
  have hk : Keep (fun _ _ => False) w (w.alloc (.cells #[.int .i64 0] 57)) := Keep.mP (M := fun _ => False) (by simp) (fun k hk _ => Below.heap_alloc _ _ k hk) (fun _ _ h => h);have hsz : (w.alloc (.cells #[.int .i64 0] 57)).heap.size = w.heap.size + 1 := by simp
  have hnew : (w.alloc (.cells #[.int .i64 0] 57)).heap[w.heap.size]? = some (.cells #[.int .i64 0] 57 (0, 0)) := World.alloc_heap_new _ _;have hsN := hsd.inN hk (aP _) (by rw [hsz]; omega);cases hFx : F (conv x) with
  | none => rw [hFx] at hy; cases hy
  | some r =>
    rw [hFx] at hy;have hcall := hM.2 (conv x) r hFx _ β _ us (by exact hP) (by rw [hos]; exact hkf) hsN;have Yu : ∀ {β' : Nat -> Pl} {σ' : St} {a' : Act} {w2 : World}, Sim (Sg C β (sd.enc (conv x)).h w (w.alloc (.cells #[.int .i64 0] 57)) w.heap.size hsd.heap hk) β' σ' a' w2 -> w2.heap[w.heap.size]? = some (.cells #[.int .i64 0] 57 (0, 0)) := fun h => by
      rw [h.heap.frame.block _ (by show _ < (w.alloc _).heap.size; rw [hsz]; omega) (fun j hm => ?_)]
      · exact hnew
      · obtain ⟨i, o, ho, _, hb⟩ := hm;have := (hsd.heap.eY i o _ ho ⟨_, hb⟩).2.1;omega
    have hos0 := hs.heap.os;have yBm := hs.heap.tape;have yBn := hs.heap.output;have hap : us.toArray ++ #[] = us.toArray := by simp
    have hC := Tryz.tried_calls (w := w) (g := g) (first := us.toArray) (caps := #[])
      (R := fun e w2 => (∃ y β' us, e = .returned (.tuple #[]) ∧ r = .inl y ∧ Sim (Sg C β (sd.enc (conv x)).h w (w.alloc (.cells #[.int .i64 0] 57)) w.heap.size hsd.heap hk) β' (od.enc y) { tmps := us, defers := [] } w2) ∨
        ∃ a z β' us, e = .panicked [{ v := .iface 57 (.int .i64 a), recovered := false }] ∧ r = .inr z ∧ so.enc (o2 z) = ⟨[.one (.val (.int .i64) a)], (sp.enc z).h⟩ ∧ Sim (Sg C β (sd.enc (conv x)).h w (w.alloc (.cells #[.int .i64 0] 57)) w.heap.size hsd.heap hk) β' (sp.enc z) { tmps := us, defers := [] } w2)
      (by rw [hap]; exact zB hM.1 _ _) (by
        rw [hap];refine hcall.mono ?_;rintro e w2 (⟨z, vs, β', rfl, rfl, hs'⟩ | ⟨z, v, β', rfl, rfl, hs'⟩)
        · have hv : vs = [] := by
            have := hs'.size;rw [(h1 z).2] at this;simpa using this.symm
          subst hv;exact ⟨Yu hs', .inl ⟨z, β', _, rfl, rfl, hs'⟩, .inl rfl⟩
        · obtain ⟨a, hz, hzr⟩ := h2 z;have := hs'.reg 0 _ (by rw [hzr]; rfl);simp only [V.Rel, L.Rel, Ty.Rel, aJ, and_true] at this;have hc : v = .int .i64 a := by simpa using this
          subst hc;exact ⟨Yu hs', .inr ⟨a, z, β', _, rfl, rfl, hz, hs'⟩, .inr ⟨a, rfl⟩⟩)
    refine hC.mono ?_;have e0 : (w.alloc (.cells #[.int .i64 0] 57)).os = w.os := rfl;have e1 : (w.alloc (.cells #[.int .i64 0] 57)).tape = w.tape := rfl;have e2 : (w.alloc (.cells #[.int .i64 0] 57)).output = w.output := rfl;rintro e w' ⟨e3, w2, hR, ⟨hb1, hb2, ho, ht, hou⟩, hend⟩;have hk' : Keep (fun b _ => b = w.heap.size) w2 w' := Keep.mP (M := fun b => b = w.heap.size) hb1 (fun k hk hn => hb2 k hk hn) (fun _ _ h => h);rcases hR with ⟨z, β', vs, rfl, rfl, hs'⟩ | ⟨a, z, β', vs, rfl, rfl, hz, hs'⟩
    · have hend : e = .returned (.int .i64 0) := by
        rcases hend with ⟨_, h⟩ | ⟨a, h, _⟩
        · exact h
        · cases h
      subst hend;obtain rfl := Option.some.inj hy;have := Sim.yJm (aP _) (by rw [hsz]; omega) hs' hk' (ho.trans (hs'.heap.os.trans (e0.trans hos0))) (ht.trans (hs'.heap.tape.trans (e1.trans yBm))) (hou.trans (hs'.heap.output.trans (e2.trans yBn)));refine ⟨[.int .i64 0], β', rfl, ?_⟩;rw [(h1 z).1];exact zTk this 0
    · have hend : e = .returned (.int .i64 a) := by
        rcases hend with ⟨h, _⟩ | ⟨b, h, h'⟩
        · cases h
        · injection h with h; injection h with h _; injection h with h _; injection h with _ h; injection h with _ h; subst h; exact h'
      subst hend;obtain rfl := Option.some.inj hy;have := Sim.yJm (aP _) (by rw [hsz]; omega) hs' hk' (ho.trans (hs'.heap.os.trans (e0.trans hos0))) (ht.trans (hs'.heap.tape.trans (e1.trans yBm))) (hou.trans (hs'.heap.output.trans (e2.trans yBn)));refine ⟨[.int .i64 a], β', rfl, ?_⟩;rw [hz];exact zTk this a
end
end Go.Dec
namespace Go.Proofs
open  Go.RowKit
theorem Tryz.infoBld:(Tryz.prog.info? 195).map (λi=>(i.zero,i.size,i.bytes))=some (some (.agg #[.pointer none,.slice none 0 0]),2,32):=by kernel_rfl
set_option maxHeartbeats 1000000 in
set_option maxRecDepth 100000 in
theorem Tryz.check_used(b:Nat)(w:World)(h0:w.cell? ⟨b,0,none⟩=some (.pointer (some ⟨b,0,none⟩))):Calls Tryz.prog 144 #[.pointer (some ⟨b,0,none⟩)] w λe w'=>e=.returned (.tuple #[])/\w'=w:=by
 obtain⟨j,hj,_⟩:=info_parts Tryz.infoBld
 go_enter Tryz.func144,Tryz.ntmps144
 go_wp2
 rw[Lib.run_neq_ptr_same w _ Tryz.underlying193 hj]
 go_wp2
 go_end0
 exact⟨rfl,rfl⟩
set_option maxHeartbeats 1000000 in
set_option maxRecDepth 100000 in
theorem Tryz.check_fresh(b:Nat)(w:World)(h0:w.cell? ⟨b,0,none⟩=some (.pointer none))(hsh:w.shape? b=some (195,2))(hfz:w.frozen? ⟨b,0,none⟩=false):Calls Tryz.prog 144 #[.pointer (some ⟨b,0,none⟩)] w λe w'=>e=.returned (.tuple #[])/\w'=w.setCell ⟨b,0,none⟩ (.pointer (some ⟨b,0,none⟩)):=by
 obtain⟨j,hj,_,hjs,_⟩:=info_parts Tryz.infoBld
 go_enter Tryz.func144,Tryz.ntmps144
 go_wp2
 rw[Lib.run_to_unsafe w ⟨b,0,none⟩ Tryz.underlying193 Tryz.underlying251 hj (by rw[hjs];decide) hsh (Nat.zero_lt_succ 1)];simp only[Result.andThen];rw[Oper.upon_value]
 go_wp2
 rw[run_callFunc_extern Tryz.func179 (by kernel_rfl) (by kernel_rfl) (by kernel_rfl) (e:=Extern.AbiNoEscape.same) (by kernel_rfl)];rw[Lib.run_noEscape];simp only[Result.andThen];rw[Oper.upon_value]
 go_wp2
 rw[Lib.run_from_unsafe w ⟨b,0,none⟩ Tryz.underlying251 Tryz.underlying193 hj hsh (by kernel_rfl)];simp only[Result.andThen];rw[Oper.upon_value]
 go_wp2
 go_end0
 exact⟨rfl,rfl⟩
end Go.Proofs
namespace Go.Dec
open Go.Proofs Go.RowKit
abbrev ySl:List OS:=[.box 195 [.fC 0 0,.own 1],.row 5 (.int .u8)]
abbrev Oe:Sh:=⟨1,[⟨0,false,[.ptr 0 0]⟩],ySl⟩
abbrev Og:Sh:=⟨0,[],ySl⟩
theorem yEv{w:World}{b:Nat}{c v u:Value}{e:TypeId}(h:w.heap[b]?=some (.cells #[c,u] e (0,0))):w.setCell ⟨b,0,none⟩ v=w.setRow b #[v,u]:=by
 have e1:(w.setCell ⟨b,0,none⟩ v).heap=(w.setRow b #[v,u]).heap:=by
  apply Array.ext_getElem?;intro j;by_cases hj:j=b
  ·subst hj;rw[setRow_heap w j _ _ e _ h];obtain⟨hlt,hk⟩:=Array.getElem?_eq_some_iff.1 h;show(w.heap.modify j _)[j]?=_;rw[Array.getElem?_eq_getElem (by rw[Array.size_modify];exact hlt),Array.getElem_modify_self,hk];rfl
  ·rw[setRow_other w b j _ (λe=>hj e),Below.heap_setCell _ _ _ j (λe=>hj e)]
 have e2:w.setCell ⟨b,0,none⟩ v={ w with heap:=(w.setCell ⟨b,0,none⟩ v).heap }:=rfl;rw[e2,e1];rfl
theorem zFz(n:Nat):dV Tryz.prog 144 Oe Og (Iy n):=by
 refine⟨by kernel_rfl,λx y hF C β w xs hP hkf hs=>?_⟩;obtain rfl:=Option.some.inj hF;obtain⟨rows,x0⟩:=x;have hE:Oe.enc (rows,x0)=⟨[.one (.ptr 0 0)],[.box 195 [.fC 0 0,.own 1 0],.arr 5 (.int .u8) 0 rows true]⟩:=rfl;have hE2:Og.enc (rows,x0)=⟨[],[.box 195 [.fC 0 0,.own 1 0],.arr 5 (.int .u8) 0 rows true]⟩:=rfl;rw[hE]at hs;rw[hE2];have h0:=hs.heap.obj 0 _ rfl;have hr:=hs.reg 0 _ rfl;have hsz:=hs.size;obtain⟨u,rfl⟩:∃ u,xs=[u]:=List.length_eq_one_iff.1 (by simpa using hsz.symm);simp only[Ob.Rel,aG,V.Rel,L.Rel]at h0 hr;obtain⟨hl,hb,b,cs,hblk,⟨c1,c2,rfl,⟨c,rfl,hc⟩,c3,c4,rfl,⟨g1,g2,g3,v,rfl,g5,g6⟩,rfl⟩,hheap⟩:=h0;obtain⟨_,_,b',hb',hu⟩:=hr;have hbb:b'=b:=by rw[hblk]at hb';cases hb';rfl
 subst hbb;have hu:u=.pointer (some ⟨b',0,none⟩):=by simpa using hu
 subst hu;simp only[List.nil_append,List.cons_append,List.append_nil]at hheap;have done:∀ {w':World},fB C β [.box 195 [.fC 0 0,.own 1 0],.arr 5 (.int .u8) 0 rows true] w'->Sim C β ⟨[],[.box 195 [.fC 0 0,.own 1 0],.arr 5 (.int .u8) 0 rows true]⟩ { tmps:=(([]:List Value)).toArray,defers:=[] } w' :=
  λh=>⟨h,rfl,rfl,λi v h=>by simp at h⟩
 rcases hc with rfl|⟨_,_,b2,hb2,rfl⟩
 ·refine(Tryz.check_fresh b' w (by simp[World.cell?,hheap]) (by simp[World.shape?,hheap]) (by simp[World.frozen?,hheap])).mono ?_;rintro e w' ⟨rfl,rfl⟩;rw[yEv hheap];refine⟨[],β,rfl,done ?_⟩;have:=Sim.Vm (id:=0) (e:=195) (ls:=[.fC 0 0,.own 1 0]) (ls':=[.fC 0 0,.own 1 0]) (b:=b') (cs:=[.pointer none,v]) (cs':=[.pointer (some ⟨b',0,none⟩),v]) hs rfl hblk hheap ?_
  ·exact this.heap
  ·exact⟨[_],[_],rfl,⟨_,rfl,.inr ⟨hl,hb,b',hblk,rfl⟩⟩,[_],[],rfl,⟨g1,g2,g3,v,rfl,g5,g6⟩,rfl⟩
 ·have hbb:b2=b':=by rw[hblk]at hb2;cases hb2;rfl
  subst hbb;refine(Tryz.check_used b2 w (by simp[World.cell?,hheap])).mono ?_;rintro e w' ⟨rfl,rfl⟩;exact⟨[],β,rfl,done hs.heap⟩
end Go.Dec
namespace Go.Dec
open Go.Proofs Go.RowKit
theorem grownBy_drew(w:World)(r:Option Nat):w.grownBy w.drew r:=⟨rfl,rfl,rfl,aP _,λ_ _ _=>rfl⟩
theorem zQg{a b c:World}{r:Option Nat}(h:a.grownBy b r)(h':b.grownBy c r):a.grownBy c r :=
 ⟨h'.os.trans h.os,h'.tape.trans h.tape,h'.output.trans h.output,Nat.le_trans h.size h'.size,λk hk hne=>(h'.block k (Nat.lt_of_lt_of_le hk h.size) hne).trans (h.block k hk hne)⟩
theorem zTl(w:World)(g n:Nat):w.grownBy (w.freeze ⟨g,0,none⟩ n) (some g):=by
 unfold World.freeze;split
 ·exact⟨rfl,rfl,rfl,aP _,λ_ _ _=>rfl⟩
 ·refine⟨rfl,rfl,rfl,by simp,λk hk hne=>?_⟩;simp only[Array.getElem?_modify];rw[if_neg (λe=>hne (by rw[e]))]
set_option maxHeartbeats 1000000 in
set_option maxRecDepth 100000 in
theorem ySm(b g cap:Nat)(p:Value)(cur:Array Value)(l:List UInt8)(w:World)(h0:l≠[])(hbk:w.heap[b]?=some (.cells #[p,.slice (some ⟨g,0,none⟩) l.length cap] 195 (0,0)))(hg:w.heap[g]?=some (.cells cur 5 (0,0)))(hnc:l.length<=cap)(hcm:cap<=maxLen)(hcs:cur.size=cap)(htake:cur.toList.take l.length=Lib.byteCells l):Calls Tryz.prog 126 #[.pointer (some ⟨b,0,none⟩)] w λe w'=>e=.returned (.string ⟨l.toArray⟩)/\w.grownBy w' (some g):=by
 have hl0:l.length≠0:=by simpa using h0
 have c1:w.drew.cell? ⟨b,1,none⟩=some (.slice (some ⟨g,0,none⟩) l.length cap):=by
  have:w.drew.heap[b]?=some (.cells #[p,.slice (some ⟨g,0,none⟩) l.length cap] 195 (0,0)):=hbk;rw[Lib.cell_of_heap this];rfl
 have hSD:(Builtin.unsafeSliceData_ #[149] 226 #[.slice (some ⟨g,0,none⟩) l.length cap]).run Tryz.prog w.drew=.ok (.pointer (some ⟨g,0,none⟩)) w.drew :=
  Lib.run_unsafeSliceData_row _ _ _ _ _ _ (by omega)
 have hUS:(Builtin.unsafeString_ #[226,3] 9 #[.pointer (some ⟨g,0,none⟩),.int .i64 l.length]).run Tryz.prog w.drew=.ok (.string ⟨l.toArray⟩) (w.drew.freeze ⟨g,0,none⟩ l.length):=by
  refine Lib.run_unsafeString_row w.drew 226 3 9 5 Tryz.underlying226 (by kernel_rfl) g cur.size (by have hg':w.drew.heap[g]?=some (.cells cur 5 (0,0)):=hg;simp[World.shape?,hg']) l h0 (by omega) (by unfold maxLen at hcm;omega) ?_;intro j x hx;have hj:j<l.length:=(bE.1 hx).1;have h1:cur[j]?=some (.int .u8 x.toNat):=by
   have h2:(cur.toList.take l.length)[j]?=some (.int .u8 x.toNat):=by rw[htake];simp[Lib.byteCells,hx]
   rw[List.getElem?_take,if_pos hj]at h2;simpa using h2
  have hg':w.drew.heap[g]?=some (.cells cur 5 (0,0)):=hg;rw[addr_add,Lib.cell_of_heap hg'];simpa using h1
 have mixed:Tryz.prog.follows .mixedOrders=true:=by kernel_rfl
 go_enter Tryz.func126,Tryz.ntmps126
 go_wp2
 go_region_o
 all_goals (go_wp2;go_ret;exact⟨rfl,zQg (grownBy_drew w _) (zTl _ _ _)⟩)
theorem zNo(W:World)(q:Option Addr):(Builtin.unsafeString_ #[226,3] 9 #[.pointer q,.int .i64 0]).run Tryz.prog W=.ok (.string .empty) W:=Lib.run_unsafeString_none W _ _ _ q
set_option maxHeartbeats 2000000 in
set_option maxRecDepth 100000 in
theorem yWx(b:Nat)(r:Option Nat)(p:Value)(w:World)(hbk:w.heap[b]?=some (.cells #[p,.slice none 0 0] 195 (0,0))):Calls Tryz.prog 126 #[.pointer (some ⟨b,0,none⟩)] w λe w'=>e=.returned (.string ⟨#[]⟩)/\w.grownBy w' r:=by
 have hUS:=zNo;have c1:w.drew.cell? ⟨b,1,none⟩=some (.slice none 0 0):=by
  have:w.drew.heap[b]?=some (.cells #[p,.slice none 0 0] 195 (0,0)):=hbk;rw[Lib.cell_of_heap this];rfl
 have hSD:(Builtin.unsafeSliceData_ #[149] 226 #[.slice none 0 0]).run Tryz.prog w.drew=.ok (.pointer none) w.drew:=rfl;have mixed:Tryz.prog.follows .mixedOrders=true:=by kernel_rfl
 go_enter Tryz.func126,Tryz.ntmps126
 go_wp2
 go_region_o
 all_goals (go_wp2;go_ret;exact⟨rfl,grownBy_drew w _⟩)
set_option maxHeartbeats 2000000 in
set_option maxRecDepth 100000 in
theorem yKp(b g:Nat)(r:Option Nat)(p:Value)(cur:Array Value)(w:World)(hbk:w.heap[b]?=some (.cells #[p,.slice (some ⟨g,0,none⟩) 0 0] 195 (0,0)))(hg:w.heap[g]?=some (.cells cur 5 (0,0))):Calls Tryz.prog 126 #[.pointer (some ⟨b,0,none⟩)] w λe w'=>e=.returned (.string ⟨#[]⟩)/\w.grownBy w' r:=by
 have hUS:=zNo;have hlt:b<w.heap.size:=by
  rcases jB b w.heap.size with h'|h'
  ·exact h'
  ·simp[Array.getElem?_eq_none h']at hbk
 have c1:w.drew.cell? ⟨b,1,none⟩=some (.slice (some ⟨g,0,none⟩) 0 0):=by
  have:w.drew.heap[b]?=some (.cells #[p,.slice (some ⟨g,0,none⟩) 0 0] 195 (0,0)):=hbk;rw[Lib.cell_of_heap this];rfl
 have hSD:(Builtin.unsafeSliceData_ #[149] 226 #[.slice (some ⟨g,0,none⟩) 0 0]).run Tryz.prog w.drew=.ok (.pointer (some ⟨w.drew.heap.size,0,none⟩)) (w.drew.alloc (.view ⟨g,0,none⟩ 5)):=
  Lib.run_unsafeSliceData_zero w.drew _ _ 5 Tryz.underlying226 ⟨g,0,none⟩ 0 (5,cur.size) (by have hg':w.drew.heap[g]?=some (.cells cur 5 (0,0)):=hg;simp[World.shape?,hg'])
 have c2:(w.drew.alloc (.view ⟨g,0,none⟩ 5)).cell? ⟨b,1,none⟩=some (.slice (some ⟨g,0,none⟩) 0 0):=by
  have:(w.drew.alloc (.view ⟨g,0,none⟩ 5)).heap[b]?=_:=(Lib.alloc_old w.drew _ b hlt).trans hbk;rw[Lib.cell_of_heap this];rfl
 have c3:(w.alloc (.view ⟨g,0,none⟩ 5)).drew.cell? ⟨b,1,none⟩=some (.slice (some ⟨g,0,none⟩) 0 0):=c2;have c0:w.cell? ⟨b,1,none⟩=some (.slice (some ⟨g,0,none⟩) 0 0):=c1;have mixed:Tryz.prog.follows .mixedOrders=true:=by kernel_rfl
 go_enter Tryz.func126,Tryz.ntmps126
 go_wp2
 go_region_o
 all_goals (go_wp2;go_ret;exact⟨rfl,zQg (grownBy_drew w _) (World.grownBy_alloc _ _ _)⟩)
set_option maxHeartbeats 2000000 in
set_option maxRecDepth 100000 in
theorem ySn(b g cap:Nat)(r:Option Nat)(p:Value)(w:World)(hc0:cap≠0)(hbk:w.heap[b]?=some (.cells #[p,.slice (some ⟨g,0,none⟩) 0 cap] 195 (0,0))):Calls Tryz.prog 126 #[.pointer (some ⟨b,0,none⟩)] w λe w'=>e=.returned (.string ⟨#[]⟩)/\w.grownBy w' r:=by
 have hUS:=zNo;have c1:w.drew.cell? ⟨b,1,none⟩=some (.slice (some ⟨g,0,none⟩) 0 cap):=by
  have:w.drew.heap[b]?=some (.cells #[p,.slice (some ⟨g,0,none⟩) 0 cap] 195 (0,0)):=hbk;rw[Lib.cell_of_heap this];rfl
 have hSD:(Builtin.unsafeSliceData_ #[149] 226 #[.slice (some ⟨g,0,none⟩) 0 cap]).run Tryz.prog w.drew=.ok (.pointer (some ⟨g,0,none⟩)) w.drew :=
  Lib.run_unsafeSliceData_row _ _ _ _ _ _ hc0
 clear hc0;have mixed:Tryz.prog.follows .mixedOrders=true:=by kernel_rfl
 go_enter Tryz.func126,Tryz.ntmps126
 go_wp2
 go_region_o
 all_goals (go_wp2;go_ret;exact⟨rfl,grownBy_drew w _⟩)
abbrev Dh:Sh:=⟨1,[⟨0,false,[.ptr 0 0]⟩],ySl⟩
abbrev xH:Sh:=⟨1,[⟨0,false,[.v .str]⟩],[.box 195 [.fC 0 0,.any 1],.row 5 (.int .u8)]⟩
theorem yBp(l:List Int)(h:(l.all λn=>decide (0<=n)&&decide (n<256))=true):Lib.byteCells (bN l)=l.map (Value.int .u8):=by
 induction l with
 |nil=>rfl
 |cons n l ih =>
  simp only[List.all_cons,aD,decide_eq_true_eq]at h;obtain⟨⟨h1,h2⟩,h3⟩:=h;have:=ih h3;simp only[Lib.byteCells,bN,List.map_cons,List.map_map]at this ⊢;rw[aJ];refine⟨?_,this⟩;have e:(UInt8.ofNat n.toNat).toNat=n.toNat:=by
   rw[UInt8.toNat_ofNat_of_lt'];have:n.toNat<256:=by omega
   exact this
  rw[e];congr 1;omega
theorem Me(n:Nat):dV Tryz.prog 126 Dh xH (Builder_String n):=by
 refine⟨by kernel_rfl,λx y hF C β w xs hP hkf hs=>?_⟩;obtain⟨hrange,hy⟩:=iM hF;obtain rfl:=Option.some.inj hy;obtain⟨rows,x0⟩:=x;have hE:Dh.enc (rows,x0)=⟨[.one (.ptr 0 0)],[.box 195 [.fC 0 0,.own 1 0],.arr 5 (.int .u8) 0 rows true]⟩:=rfl;have hE2:xH.enc (bN rows,[],())=⟨[.one (.val .str (bN rows))],[.box 195 [.fC 0 0,.bad 1],.arr 5 (.int .u8) 0 [] true]⟩:=rfl;rw[hE]at hs;show Calls Tryz.prog 126 xs.toArray w λe w'=>∃ us β',e=Ending.returned (sG us)/\Sim C β' (xH.enc (bN rows,[],())) { tmps:=us.toArray,defers:=[] } w'
 rw[hE2];have h0:=hs.heap.obj 0 _ rfl;have h1:=hs.heap.obj 1 _ rfl;have hr:=hs.reg 0 _ rfl;have hsz:=hs.size;obtain⟨u,rfl⟩:∃ u,xs=[u]:=List.length_eq_one_iff.1 (by simpa using hsz.symm);have hcells:=yBp rows hrange;simp only[Ob.Rel,aG,V.Rel,L.Rel]at h0 h1 hr;obtain⟨hl,hb,b,cs,hblk,⟨c1,c2,rfl,⟨c,rfl,hc⟩,c3,c4,rfl,⟨g1,g2,g3,v,rfl,g5,g6⟩,rfl⟩,hheap⟩:=h0;obtain⟨_,_,b',hb',hu⟩:=hr;have hbb:b'=b:=by rw[hblk]at hb';cases hb';rfl
 subst hbb;have hu:u=.pointer (some ⟨b',0,none⟩):=by simpa using hu
 subst hu;simp only[List.nil_append,List.cons_append,List.append_nil]at hheap;obtain⟨k1,k2,k3,k4,k5,k6,k7⟩:=h1;have hso:=g6 k3;have done:∀ {w':World}{r:Option Nat},w.grownBy w' r->(∀ k,r=some k->(β 1).blk=some k) ->
  Sim C (upd β 1 ⟨true,false,0,none,1,0,0,[]⟩) ⟨[.one (.val .str (bN rows))],[.box 195 [.fC 0 0,.bad 1],.arr 5 (.int .u8) 0 [] true]⟩ { tmps:=([Value.string ⟨(bN rows).toArray⟩]:List Value).toArray,defers:=[] } w':=by
  intro w' r hg hrk;have hne:∀ k,r=some k->k≠b':=λk hk e=>by
   subst e;have:=hs.heap.apart 0 1 _ _ k rfl rfl hblk (hrk k hk);omega
  have hlt:b'<w.heap.size:=(Array.getElem?_eq_some_iff.1 hheap).1;have hb2:w'.heap[b']?=some (.cells #[c,v] 195 (0,0)):=(hg.block b' hlt (λe=>hne b' e.symm rfl)).trans hheap;have e0:upd β 1 ⟨true,false,0,none,1,0,0,[]⟩ 0=β 0:=aU _ _ (by omega);have e1:upd β 1 ⟨true,false,0,none,1,0,0,[]⟩ 1=⟨true,false,0,none,1,0,0,[]⟩:=upd_same _ _ _;refine⟨{ obj:=?_,dead:=?_,kR:=?_,eY:=?_,n0:=hs.heap.n0,frame:=?_,size:=Nat.le_trans hs.heap.size hg.size,os:=hg.os.trans hs.heap.os,tape:=hg.tape.trans hs.heap.tape,output:=hg.output.trans hs.heap.output,fixed:=?_ },rfl,rfl,?_⟩
  ·intro id o ho;match id,ho with
   |0,ho =>
    obtain rfl:=Option.some.inj ho;simp only[Ob.Rel,aG,L.Rel,e0];exact⟨hl,hb,b',[c,v],hblk,⟨[c],[v],rfl,⟨c,rfl,hc⟩,[v],[],rfl,⟨rfl,λq hq=>by simp at hq;subst hq;exact g5⟩,rfl⟩,hb2⟩
   |1,ho =>
    obtain rfl:=Option.some.inj ho;simp only[Ob.Rel,e1];simp[Ty.size]
   |id+2,ho=>simp at ho
  ·intro id hid;have hid:2<=id:=hid;rw[aU _ _ (by omega)];exact hs.heap.dead id hid
  ·intro i j o o' bk hi hj h1 h2;match i,j,hi,hj with
   |0,0,_,_=>rfl
   |1,_,hi,_ =>
    obtain rfl:=Option.some.inj hi;have:=Ob.uG rfl h1;rw[e1]at this;cases this
   |_,1,_,hj =>
    obtain rfl:=Option.some.inj hj;have:=Ob.uG rfl h2;rw[e1]at this;cases this
   |i+2,_,hi,_=>simp at hi
   |_,j+2,_,hj=>simp at hj
  ·intro id o bk hi h1;match id,hi with
   |0,hi =>
    obtain rfl:=Option.some.inj hi;rw[e0]at h1;obtain⟨q1,q2,q3⟩:=hs.heap.Jt (id:=0) (o:=.box 195 [.fC 0 0,.own 1 0]) (p:=β 0) rfl rfl rfl rfl (λh=>h) h1;rw[e0];exact⟨q1,Nat.lt_of_lt_of_le q2 hg.size,q3⟩
   |1,hi =>
    obtain rfl:=Option.some.inj hi;have:=Ob.uG rfl h1;rw[e1]at this;cases this
   |id+2,hi=>simp at hi
  ·refine hs.heap.frame.tN (M:=λk _=>some k=r) (Keep.mP (M:=λk=>some k=r) hg.size (λb hb hn=>hg.block b hb hn) (λ_ _ h=>h)) λk j hk hr=>?_
   have hk1:=hrk k hr.symm;obtain⟨_,_,q3⟩:=hs.heap.fresh 1 _ k rfl hk1;rcases q3 with q3|q3
   ·omega
   ·exact q3 j rfl
  ·intro j o hj;obtain⟨q1,q2⟩:=hs.heap.fixed j o hj;refine⟨q1,λbk hbk=>?_⟩;obtain⟨q3,q4⟩:=q2 bk hbk;match j with
   |0=>rw[e0];exact⟨q3,q4⟩
   |1=>rw[k2]at q4;cases q4
   |j+2=>simp at q1;omega
  ·intro i q hq;match i,hq with
   |0,hq =>
    obtain rfl:=Option.some.inj hq;simp[V.Rel,L.Rel,Ty.Rel]
   |i+1,hq=>simp at hq
 have hlb:(bN rows).length=rows.length:=by simp[bN]
 rcases k7 with ⟨hn,rfl,hcap⟩|⟨g,cur,css,hgb,hgh,hall,htake,hcap,hrc,hcm⟩
 ·unfold eO at hso;rw[hn]at hso;obtain⟨rfl,_,_⟩:=hso;refine(yWx b' none c w hheap).mono ?_;rintro e w' ⟨rfl,hg⟩;exact⟨[_],_,rfl,done hg (λk hk=>by cases hk)⟩
 ·unfold eO at hso;rw[hgb]at hso;obtain⟨m1,o,rfl,m3⟩:=hso;have ho0:o=0:=by
   rcases m3 with m3|m3
   ·simpa using m3
   ·omega
  subst ho0;rw[Nat.sub_zero,k6]at hheap;have xCo:css.flatten=rows.map (Value.int .u8):=zSn hall;have hcs:cur.size=(β 1).cap:=by simpa [Ty.size]using hcap
  have htk:cur.toList.take rows.length=Lib.byteCells (bN rows):=by rw[hcells,<- xCo];simpa [Ty.size]using htake
  by_cases he:rows=[]
  ·subst he;by_cases hc0:(β 1).cap=0
   ·rw[hc0]at hheap;refine(yKp b' g none c cur w hheap hgh).mono ?_;rintro e w' ⟨rfl,hg⟩;exact⟨[_],_,rfl,done hg (λk hk=>by cases hk)⟩
   ·refine(ySn b' g (β 1).cap none c w hc0 hheap).mono ?_;rintro e w' ⟨rfl,hg⟩;exact⟨[_],_,rfl,done hg (λk hk=>by cases hk)⟩
  ·rw[<- hlb]at hheap htk;refine(ySm b' g (β 1).cap c cur (bN rows) w (by intro h;have:=congrArg List.length h;rw[hlb]at this;exact he (List.eq_nil_of_length_eq_zero this)) hheap hgh (by omega) hcm hcs htk).mono ?_;rintro e w' ⟨rfl,hg⟩;exact⟨[_],_,rfl,done hg (λk hk=>by cases hk;exact hgb)⟩
end Go.Dec
