/- Part of a proof over this seat: a library of my own, and what it says of this seat. No statement is proved here. -/
import Derived.Test.YthhbdkdofhhoeaaGreatDoorPartAQ
import Derived.WalkKit
import Derived.OwnWalkIn
import Derived.TacticsInMore
import Derived.Lib.SliceRun
namespace Go.Dec
section
variable {T : Tab} {C : Ctx} {β : Nat -> Pl} {w : World}
def zFt (T : Tab) (σ : St) : ResultVar -> Option (Bool × V)
 | .tmp t => some (true, σ.r.getD t .bB)
 | .cell t ty =>
  match σ.r.getD t .bB with
  | .one l => loadAt T σ.h ty l
  | _ => none
def Mk (T : Tab) (σ : St) : List ResultVar -> Option (Bool × List V)
 | [] => some (true, [])
 | x :: r =>
  match zFt T σ x, Mk T σ r with
  | some (c, l), some (d, ls) => some (c && d, l :: ls)
  | _, _ => none
theorem zKw {σ : St} {a : Act} {rv : ResultVar} {v : V} (hT : bI C.P T) (hs : Sim C β σ a w) (h : zFt T σ rv = some (true, v)) :
  ∃ x, (nS a.tmps rv).run C.P w = .ok x w ∧ v.Rel β w (C.N β σ.h) x := by
 cases rv with
 | tmp t =>
  simp only [zFt, Option.some.injEq, Prod.mk.injEq, true_and] at h
  subst h
  exact ⟨a.tmps.getD t undef, rfl, Fv hs t⟩
 | cell t ty =>
  simp only [zFt] at h
  have hr := Fv hs t
  split at h
  ·rename_i l hl
   rw [hl] at hr
   obtain ⟨y, h1, h2⟩ := yH hT h hs.heap hr
   obtain ⟨ad, h3, h4⟩ := Cq h1
   refine ⟨y, ?_, h2⟩
   simp only [nS, h3, asAddr, Sem.run_bind, Sem.run_pure, Result.andThen_ok, h4]
  ·cases h
theorem Wq {σ : St} {a : Act} (hT : bI C.P T) (hs : Sim C β σ a w) : ∀ {rs : List ResultVar} {vs : List V}, Mk T σ rs = some (true, vs) ->
  ∀ acc : Array Value, ∃ us : List Value, (rs.foldlM (fun (acc : Array Value) rv => do let v <- nS a.tmps rv; pure (acc.push v)) acc).run C.P w = .ok (acc ++ us.toArray) w ∧ aS (fun v u => V.Rel β w (C.N β σ.h) v u) vs us
 | [], vs, h, acc => by
  simp only [Mk, Option.some.injEq, Prod.mk.injEq, true_and] at h
  subst h
  exact ⟨[], by simp, trivial⟩
 | rv :: rs, vs, h, acc => by
  simp only [Mk] at h
  split at h
  ·rename_i c s d r h1 h2
   simp only [Option.some.injEq, Prod.mk.injEq, Bool.and_eq_true] at h
   obtain ⟨⟨rfl, rfl⟩, rfl⟩ := h
   obtain ⟨x, g1, g2⟩ := zKw hT hs h1
   obtain ⟨us, g4, g5⟩ := Wq hT hs h2 (acc.push x)
   refine ⟨x :: us, ?_, ⟨g2, g5⟩⟩
   simp only [List.foldlM_cons, Sem.run_bind, g1, Result.andThen_ok, Sem.run_pure, g4]
   simp
  ·cases h
theorem zAd {σ : St} {a : Act} {fn : Func} {vs : List V} (hT : bI C.P T) (hs : Sim C β σ a w) (h : Mk T σ fn.results.toList = some (true, vs)) :
  ∃ us : List Value, (results fn a.tmps).run C.P w = .ok (lQ us) w ∧ aS (fun v u => V.Rel β w (C.N β σ.h) v u) vs us := by
 obtain ⟨us, h1, h2⟩ := Wq hT hs h #[]
 refine ⟨us, ?_, h2⟩
 have e0 : results fn a.tmps = (do let vs <- fn.results.mapM (nS a.tmps); pure (if h : vs.size = 1 then vs[0] else .tuple vs)) := by
  unfold results
  congr 1
 have hm : (fn.results.mapM (nS a.tmps) : Sem (Array Value)).run C.P w = .ok us.toArray w := by
  rw [Array.mapM_eq_foldlM, <- Array.foldlM_toList]
  have e : (fun (acc : Array Value) rv => do let v <- nS a.tmps rv; pure (acc.push v) : Array Value -> ResultVar -> Sem (Array Value)) = (fun (acc : Array Value) rv => acc.push <$> nS a.tmps rv) := by
   funext acc rv
   rfl
  rw [e] at h1
  simpa using h1
 rw [e0]
 simp only [Sem.run_bind, hm, Result.andThen_ok, Sem.run_pure]
 match us with
 | [] => rfl
 | [u] => rfl
 | u :: v :: us => simp [lQ]
theorem zAe {σ : St} {a : Act} {vs : List V} {us : List Value} (hs : Sim C β σ a w) (h : aS (fun v u => V.Rel β w (C.N β σ.h) v u) vs us) : Sim C β ⟨vs, σ.h⟩ { tmps := us.toArray, defers := [] } w := by
 refine ⟨hs.heap, rfl, by simpa using h.length, fun i v hv => ?_⟩
 have hl : i < us.length := by rw [<- h.length]; exact (List.getElem?_eq_some_iff.1 hv).1
 have hr := h.get i (List.getElem?_eq_some_iff.1 hv).1 hl
 rw [(List.getElem?_eq_some_iff.1 hv).2] at hr
 have e2 : (us.toArray).getD i undef = us[i] := by simp [hl]
 simp only [e2]
 exact hr
def Jp (T : Tab) {ρ : Type} (res : List ResultVar) (so : Sh) (co : List Co) (σ : St) (g : so.X -> Option ρ) : Option ρ :=
 match Mk T σ res with
 | some (c, vs) => chk c (enter T so co ⟨vs, σ.h⟩ g)
 | none => none
def zFu (T : Tab) (res : List ResultVar) (so : Sh) (co : List Co) : K so.X := fun e σ =>
 match e with
 | .normal => Jp T res so co σ some
 | .ret => Jp T res so co σ some
 | _ => none
def zFv (T : Tab) (res : List ResultVar) (so : Sh) (co : List Co) (tp : TypeId) (sp : Sh) (cp : List Co) : K (Sum so.X sp.X) := fun e σ =>
 match e with
 | .normal => Jp T res so co σ fun y => some (.inl y)
 | .ret => Jp T res so co σ fun y => some (.inl y)
 | .pan t v => match Nat.beq t tp with
  | true => enter T sp cp ⟨[v], σ.h⟩ fun z => some (.inr z)
  | false => none
 | _ => none
theorem zAf {σ : St} {a : Act} {fn : Func} {so : Sh} {co : List Co} {ρ : Type} {g : so.X -> Option ρ} {r : ρ} {kf : Nat} (hT : bI C.P T) (hkf : C.fix.length <= kf) (hfx : bQ (Co.fx kf) co = true) (hs : Sim C β σ a w) (h : Jp T fn.results.toList so co σ g = some r) :
  ∃ (us : List Value) (β' : Nat -> Pl) (y : so.X), (results fn a.tmps).run C.P w = .ok (lQ us) w ∧ Sim C β' (so.enc y) { tmps := us.toArray, defers := [] } w ∧ g y = some r := by
 unfold Jp at h
 split at h
 ·rename_i c vs hvs
  obtain ⟨rfl, h⟩ := gQ h
  obtain ⟨us, h1, h2⟩ := zAd hT hs hvs
  obtain ⟨β', _, y, h3, h4⟩ := xI hT hkf hfx h (zAe hs h2)
  exact ⟨us, β', y, h1, h3, h4⟩
 ·cases h
end
section
variable {P : Program} {T : Tab} {f : FuncId} {fn : Func} {c : Code} {si so sp : Sh}
theorem Ws {C : Ctx} {β : Nat -> Pl} {w : World} {σ : St} {xs : List Value} (n : Nat) (hs : Sim C β σ { tmps := xs.toArray, defers := [] } w) :
  Sim C β ⟨yT σ.r n, σ.h⟩ { tmps := xs.toArray ++ Array.replicate (n - xs.toArray.size) undef, defers := [] } w := by
 have hl : σ.r.length = xs.length := by simpa using hs.size
 refine ⟨hs.heap, rfl, by simp [yT, hl], fun i u hu => ?_⟩
 simp only [yT] at hu
 by_cases hi : i < σ.r.length
 ·rw [List.getElem?_append_left hi] at hu
  have hr := hs.reg i u hu
  have e : (xs.toArray ++ Array.replicate (n - xs.toArray.size) undef).getD i undef = (xs.toArray).getD i undef := by
   rw [Array.getD_eq_getD_getElem?, Array.getD_eq_getD_getElem?, Array.getElem?_append_left (by simpa using by omega)]
  rw [e]
  exact hr
 ·rw [List.getElem?_append_right (by omega), List.getElem?_replicate] at hu
  split at hu
  ·simp only [Option.some.injEq] at hu; subst hu; trivial
  ·cases hu
theorem nT {F : si.X -> Option so.X} {Γ : Orc so.X} {an : An so.X} {co : List Co} (hf : P.funcs[f]? = some fn) (hb : fn.body = some c) (hh : gF P f = true) (hT : bI P T) (hΓ : gT P Γ) (hm : P.follows .mixedOrders = true)
  (ha : Uv P si.os.length c an) (hfx : an.fx si.os.length = true) (hco : bQ (Co.fx si.os.length) co = true)
  (h : ∀ x, ev Γ T c an ⟨yT (si.enc x).r fn.ntmps, (si.enc x).h⟩ (zFu T fn.results.toList so co) = F x) : jA P f si so F := by
 refine ⟨hh, fun x y hF C β w xs hP hkf hs => ?_⟩
 rw [<- h x] at hF
 refine calls_of_wp hf hb ?_
 refine Pg (P := P) hT hΓ hm c an ha hfx _ _ y hF C β _ w _ hP hkf (Ws fn.ntmps hs) ?_
 intro e x' σ' β' a' w' hs' hx' hk
 have fin : Jp T fn.results.toList so co σ' some = some y -> x' = .ret ∨ x' = .normal -> bodyPost P fn (fun e w' => ∃ (us : List Value) (β' : Nat -> Pl), e = .returned (lQ us) ∧ Sim C β' (so.enc y) { tmps := us.toArray, defers := [] } w') x' a' w' := by
  intro hk hx'
  subst hP
  obtain ⟨us, β2, y', h1, h2, h3⟩ := zAf (fn := fn) hT hkf hco hs' hk
  obtain rfl := Option.some.inj h3
  rcases hx' with rfl | rfl
  ·exact ⟨hs'.defers, _, h1, us, β2, rfl, h2⟩
  ·exact ⟨hs'.defers, _, h1, us, β2, rfl, h2⟩
 cases e with
 | normal => obtain rfl := hx'; exact fin hk (.inr rfl)
 | ret => obtain rfl := hx'; exact fin hk (.inl rfl)
 | exit i => simp [zFu] at hk
 | goto l => simp [zFu] at hk
 | pan t u => simp [zFu] at hk
theorem lT {tp : TypeId} {F : si.X -> Option (Sum so.X sp.X)} {Γ : Orc (Sum so.X sp.X)} {an : An (Sum so.X sp.X)} {co cp : List Co} (hf : P.funcs[f]? = some fn) (hb : fn.body = some c) (hh : gF P f = true) (hT : bI P T) (hΓ : gT P Γ) (hm : P.follows .mixedOrders = true)
  (ha : Uv P si.os.length c an) (hfx : an.fx si.os.length = true) (hco : bQ (Co.fx si.os.length) co = true) (hcp : bQ (Co.fx si.os.length) cp = true)
  (h : ∀ x, ev Γ T c an ⟨yT (si.enc x).r fn.ntmps, (si.enc x).h⟩ (zFv T fn.results.toList so co tp sp cp) = F x) : dV P f si so tp sp F := by
 refine ⟨hh, fun x y hF C β w xs hP hkf hs => ?_⟩
 rw [<- h x] at hF
 refine calls_of_wp hf hb ?_
 refine Pg (P := P) hT hΓ hm c an ha hfx _ _ y hF C β _ w _ hP hkf (Ws fn.ntmps hs) ?_
 intro e x' σ' β' a' w' hs' hx' hk
 subst hP
 have fin : (Jp T fn.results.toList so co σ' fun y => some (.inl y)) = some y -> x' = .ret ∨ x' = .normal -> bodyPost C.P fn (fun e w' => (∃ (z : so.X) (us : List Value) (β' : Nat -> Pl), y = .inl z ∧ e = .returned (lQ us) ∧ Sim C β' (so.enc z) { tmps := us.toArray, defers := [] } w') ∨
   ∃ (z : sp.X) (u : Value) (β' : Nat -> Pl), y = .inr z ∧ e = .panicked [{ v := .iface tp u, recovered := false }] ∧ Sim C β' (sp.enc z) { tmps := #[u], defers := [] } w') x' a' w' := by
  intro hk hx'
  obtain ⟨us, β2, y', h1, h2, h3⟩ := zAf (fn := fn) hT hkf hco hs' hk
  obtain rfl := Option.some.inj h3
  rcases hx' with rfl | rfl
  ·exact ⟨hs'.defers, _, h1, .inl ⟨y', us, β2, rfl, rfl, h2⟩⟩
  ·exact ⟨hs'.defers, _, h1, .inl ⟨y', us, β2, rfl, rfl, h2⟩⟩
 cases e with
 | normal => obtain rfl := hx'; exact fin hk (.inr rfl)
 | ret => obtain rfl := hx'; exact fin hk (.inl rfl)
 | exit i => simp [zFv] at hk
 | goto l => simp [zFv] at hk
 | pan t u =>
  simp only [zFv] at hk
  split at hk
  ·rename_i hb
   have := Nat.eq_of_beq_eq_true hb
   subst this
   obtain ⟨x0, rfl, hx0⟩ := hx'
   obtain ⟨β2, _, z, h3, h4⟩ := xI hT hkf hcp hk (zAe (vs := [u]) (us := [x0]) hs' ⟨hx0, trivial⟩)
   obtain rfl := Option.some.inj h4
   exact ⟨hs'.defers, .inr ⟨z, x0, β2, rfl, rfl, h3⟩⟩
  ·cases hk
structure GE (ρ : Type) where
 f : FuncId
 run : List V -> List Ob -> (Out -> List Ob -> Option ρ) -> Option ρ
structure GE.OK (P : Program) {ρ : Type} (g : GE ρ) : Prop where
 ok : ∀ vs h k r, g.run vs h k = some r -> gF P g.f = true ∧ yK P g.f vs h fun out h' => k out h' = some r ∧ ∀ id, id < h.length -> id ∉ reach vs h -> h'[id]? = h[id]?
def zKx {ρ : Type} : List (GE ρ) -> FuncId -> List V -> List Ob -> (Out -> List Ob -> Option ρ) -> Option ρ
 | [], _, _, _, _ => none
 | g :: r, f, vs, h, k => match Nat.beq g.f f with
  | true => g.run vs h k
  | false => zKx r f vs h k
def bV (ρ : Type) (l : List (FuncId × PE)) (m : List (GE ρ)) : Orc ρ := ⟨pes l, zKx m⟩
theorem aO {ρ : Type} {l : List (FuncId × PE)} {m : List (GE ρ)} (h : ∀ p ∈ l, p.2.OK P p.1) (hm : ∀ g ∈ m, g.OK P) : gT P (bV ρ l m) := by
 refine ⟨(zPm (ρ := ρ) h).pure, fun f vs hp k r hr => ?_⟩
 simp only [bV] at hr
 induction m with
 | nil => cases hr
 | cons g m ih =>
  simp only [zKx] at hr
  split at hr
  ·rename_i hb
   have := Nat.eq_of_beq_eq_true hb
   subst this
   exact (hm g (.head _)).ok vs hp k r hr
  ·exact ih (fun g hg => hm g (.tail _ hg)) hr
def geP {ρ : Type} (f : FuncId) (si so : Sh) (tp : TypeId) (sp : Sh) (F : si.X -> Option (Sum so.X sp.X)) : GE ρ := ⟨f, zKv si so tp sp F⟩
theorem jK {ρ : Type} {tp : TypeId} {F : si.X -> Option (Sum so.X sp.X)} (h : dV P f si so tp sp F) : (geP (ρ := ρ) f si so tp sp F).OK P := ⟨fun _ _ _ _ hr => zNt h hr⟩
theorem aP {ρ : Type} : ∀ g ∈ ([] : List (GE ρ)), g.OK P := fun _ h => by cases h
theorem fH {ρ : Type} {g : GE ρ} {m : List (GE ρ)} (h : g.OK P) (hm : ∀ g ∈ m, g.OK P) : ∀ x ∈ g :: m, x.OK P := fun x hx => by
 cases hx with
 | head => exact h
 | tail _ hx => exact hm x hx
end
def zAg {α ρ : Type} (B : Nat -> (α -> Option ρ) -> α -> Option ρ) : Nat -> α -> Option ρ
 | 0, _ => none
 | n + 1, x => B n (zAg B n) x
theorem zKy {P : Program} {f : FuncId} {si so : Sh} (hh : gF P f = true) : jA P f si so (fun _ => none) := ⟨hh, fun _ _ h => by cases h⟩
theorem Wt {P : Program} {f : FuncId} {si so : Sh} {B : Nat -> (si.X -> Option so.X) -> si.X -> Option so.X} (hh : gF P f = true) (h : ∀ n r, jA P f si so r -> jA P f si so (B n r)) : ∀ n, jA P f si so (zAg B n)
 | 0 => zKy hh
 | n + 1 => h n _ (Wt hh h n)
theorem Rn {P : Program} {f : FuncId} {si so sp : Sh} {tp : TypeId} {B : Nat -> (si.X -> Option (Sum so.X sp.X)) -> si.X -> Option (Sum so.X sp.X)} (hh : gF P f = true) (h : ∀ n r, dV P f si so tp sp r -> dV P f si so tp sp (B n r)) : ∀ n, dV P f si so tp sp (zAg B n)
 | 0 => ⟨hh, fun _ _ h => by cases h⟩
 | n + 1 => h n _ (Rn hh h n)
end Go.Dec
namespace Go.Dec
open Go.RowKit
section
variable {P : Program} {f : FuncId} {fn : Func} {t tb e : TypeId} {p0 p1 p2 p3 p4 p5 p6 p7 : String}
set_option maxHeartbeats 1000000 in
set_option maxRecDepth 100000 in
set_option maxHeartbeats 1000000 in
set_option maxRecDepth 100000 in
end
end Go.Dec
namespace Go.Dec
section
variable {C : Ctx} {β : Nat -> Pl} {w w1 : World} {h : List Ob} {σ : St} {a : Act}
def Gc (C : Ctx) (β : Nat -> Pl) (h : List Ob) (w w1 : World) (N : Nat) (hs : eO C β h w) (hk : Keep (fun _ => False) w w1) : Ctx where
 P := C.P
 N0 b := C.N0 b ∨ b = N
 w0 := w1
 Eu b := ∃ (i : Nat) (o : Ob), h[i]? = some o ∧ (β i).blk = some b
 glob w' hw := C.glob w' fun b hb hn => by
  have hlt := Nat.lt_of_lt_of_le hb hs.size
  rw [hw b (Nat.lt_of_lt_of_le hlt hk.size) (fun hm => ?_), hk.block b hlt (fun h => h)]
  ·exact hs.frame b hb hn
  ·obtain ⟨i, o, ho, hbk⟩ := hm
   rcases (hs.fresh i o b ho hbk).2.2 with h1 | h1
   ·omega
   ·exact hn h1
 fix := C.fix
theorem Sim.inN {N : Nat} (hs : Sim C β σ a w) (hk : Keep (fun _ => False) w w1) (hN : w.heap.size <= N) (hN1 : N < w1.heap.size) : Sim (Gc C β σ.h w w1 N hs.heap hk) β σ a w1 := by
 have hsub : ∀ b, b < w.heap.size -> (Gc C β σ.h w w1 N hs.heap hk).N β σ.h b -> C.N β σ.h b := fun b hb h => by
  rcases h with h | h
  ·rcases h with h | h
   ·exact .inl h
   ·omega
  ·exact .inr h
 have hkw : Keep (C.N β σ.h) w w1 := hk.weaken fun _ h => h.elim
 refine ⟨⟨fun id o ho => (hs.heap.obj id o ho).mono (Moves.refl β) hkw hsub fun b hb => hk.block b (hs.heap.fresh id o b ho hb).2.1 (fun h => h), hs.heap.dead, hs.heap.apart, fun id o b ho hb => ?_, fun b hb => ?_, fun _ _ _ => rfl, Nat.le_refl _, rfl, rfl, rfl, hs.heap.fixed⟩, hs.defers, hs.size, fun i u hu => (hs.reg i u hu).mono (Moves.refl β) hkw hsub⟩
 ·obtain ⟨k1, k2, k3⟩ := hs.heap.fresh id o b ho hb
  refine ⟨fun h => ?_, Nat.lt_of_lt_of_le k2 hk.size, .inr ⟨id, o, ho, hb⟩⟩
  rcases h with h | h
  ·exact k1 h
  ·omega
 ·rcases hb with hb | rfl
  ·exact Nat.lt_of_lt_of_le (Nat.lt_of_lt_of_le (hs.heap.n0 b hb) hs.heap.size) hk.size
  ·exact hN1
theorem Sim.zPq {N : Nat} {hs : eO C β h w} {hk : Keep (fun _ => False) w w1} {β' : Nat -> Pl} {σ' : St} {a' : Act} {w2 w3 : World} (hN : w.heap.size <= N) (hN1 : N < w1.heap.size)
  (h2 : Sim (Gc C β h w w1 N hs hk) β' σ' a' w2) (h3 : Keep (fun b => b = N) w2 w3) (ho : w3.os = C.w0.os) (ht : w3.tape = C.w0.tape) (hout : w3.output = C.w0.output) : Sim C β' σ' a' w3 := by
 have hsub : ∀ b, b < w2.heap.size -> C.N β' σ'.h b -> (Gc C β h w w1 N hs hk).N β' σ'.h b := fun b _ h => by
  rcases h with h | h
  ·exact .inl (.inl h)
  ·exact .inr h
 have hNn : (Gc C β h w w1 N hs hk).N β' σ'.h N := .inl (.inr rfl)
 have hkw : Keep ((Gc C β h w w1 N hs hk).N β' σ'.h) w2 w3 := h3.weaken fun b hb => hb ▸ hNn
 have hbk : ∀ id o b, σ'.h[id]? = some o -> (β' id).blk = some b -> b ≠ N := fun id o b ho hb e => (h2.heap.fresh id o b ho hb).1 (.inr e)
 refine ⟨⟨fun id o ho => (h2.heap.obj id o ho).mono (Moves.refl β') hkw hsub fun b hb => h3.block b (h2.heap.fresh id o b ho hb).2.1 (hbk id o b ho hb), h2.heap.dead, h2.heap.apart, fun id o b ho hb => ?_, hs.n0, fun b hb hn => ?_, ?_, ho, ht, hout, h2.heap.fixed⟩, h2.defers, h2.size, fun i u hu => (h2.reg i u hu).mono (Moves.refl β') hkw hsub⟩
 ·obtain ⟨k1, k2, k3⟩ := h2.heap.fresh id o b ho hb
  refine ⟨fun h => k1 (.inl h), Nat.lt_of_lt_of_le k2 h3.size, ?_⟩
  rcases k3 with k3 | ⟨i, o', ho', hb'⟩
  ·exact .inl (Nat.le_trans (Nat.le_trans hs.size hk.size) k3)
  ·exact (hs.fresh i o' b ho' hb').2.2
 ·have hlt := Nat.lt_of_lt_of_le hb hs.size
  rw [h3.block b (Nat.lt_of_lt_of_le (Nat.lt_of_lt_of_le hlt hk.size) h2.heap.size) (by omega), h2.heap.frame b (Nat.lt_of_lt_of_le hlt hk.size) (fun hm => ?_)]
  ·exact (hk.block b hlt (fun h => h)).trans (hs.frame b hb hn)
  ·obtain ⟨i, o', ho', hb'⟩ := hm
   rcases (hs.fresh i o' b ho' hb').2.2 with h1 | h1
   ·omega
   ·exact hn h1
 ·exact Nat.le_trans (Nat.le_trans (Nat.le_trans hs.size hk.size) h2.heap.size) h3.size
end
end Go.Dec
