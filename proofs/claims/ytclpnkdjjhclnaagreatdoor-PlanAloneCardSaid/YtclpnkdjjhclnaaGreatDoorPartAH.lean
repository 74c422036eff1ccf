/- Part of a proof over this seat: a library of my own, and what it says of this seat. No statement is proved here. -/
import Derived.Test.YtclpnkdjjhclnaaGreatDoorPartAG
namespace Go.Dec
def bL (o : Oper) : Nat :=
 match o.op with
 | .move _ | .assign _ | .unOp .. | .binOp .. | .extract .. | .pick .. | .build .. | .index .. | .makeFunc .. | .nilCheck _ | .field .. => 0
 | .fieldAddr .. | .indexAddr .. | .slice .. | .load .. | .lookup .. => 1
 | .call { callee := .value _, .. } => 1
 | .call { callee := .builtin .len, .. } => 1
 | _ => 2
def Mf (u : Nat) : Bool := Nat.ble 6 u && Nat.beq (u % 2) 0
def rdB (u : Nat) : Bool := Nat.ble u 1 || Mf u
def Nq (N a b : Nat) : Bool := Nat.beq a 0 || (Nat.beq b 0 || ((rdB a && rdB b) || ((Nat.ble 6 a && Nat.beq b 3) || ((Nat.beq a 3 && (Nat.ble 6 b && Nat.blt (b / 2) (N + 3))) || (Nat.ble 6 a && (Nat.ble 6 b && !Nat.beq (a / 2) (b / 2)))))))
def kV : V -> Bool
 | .one (.val ..) => true
 | .one (.cK ..) => true
 | .one .bH => true
 | .one .eH => true
 | _ => false
def oZ : V -> Bool
 | .one (.val ..) => true
 | .one (.cK ..) => true
 | .one .bH => true
 | .one .eH => true
 | .one (.ptr ..) => true
 | .one (.bY ..) => true
 | _ => false
def cO (b : Bool) : Nat := match b with | true => 0 | false => 1
def qM (v : V) : Nat := match v with | .one (.ptr id _) => 6 + 2 * id | v => cO (kV v)
def xU (σ : St) : List Operand -> Nat
 | [s, x] => match ovl σ s, ovl σ x with
  | .one (.own id _), .one (.val (.slice _) _) => 7 + 2 * id
  | _, _ => 2
 | _ => 2
def xV (v : V) : Nat := match v with | .one (.ptr id _) => 7 + 2 * id | _ => 2
def aJ (π : FuncId -> Option PE) (σ : St) (o : Oper) : Nat :=
 match o.op with
 | .convert _ _ x => (match ovl σ x with | .one (.val (.int _) _) => 0 | _ => 2)
 | .fieldAddr _ x _ => cO (oZ (ovl σ x))
 | .indexAddr _ x _ => cO (oZ (ovl σ x))
 | .slice _ x _ _ _ => cO (kV (ovl σ x))
 | .load _ x => qM (ovl σ x)
 | .store _ x _ => xV (ovl σ x)
 | .buildSlice .. => 3
 | .alloc _ => 3
 | .box .. => 3
 | .call { callee := .value x, args, .. } =>
  match callee σ x with
  | some (f, cs) =>
   match π f with
   | some e =>
    match Nat.ble e.use 1 with
    | true => cO (bI V.isD (dK σ args.toList ++ cs))
    | false => 2
   | none => 2
  | none => 2
 | .call { callee := .builtin .len, args, .. } => cO (bI kV (dK σ args.toList))
 | .call { callee := .builtin .append, args, .. } => xU σ args.toList
 | _ => bL o
def ahead (ops : Array Oper) : Nat -> Nat -> Nat -> Bool
 | 0, _, _ => false
 | n + 1, i, j =>
  match ops[j]? with
  | some o => o.after.toList.any fun e => Region.binds .any e && (Nat.beq e.on i || ahead ops n i e.on)
  | none => false
def zD : List Oper -> Nat -> Bool
 | [], _ => true
 | o :: r, j => (o.after.toList.all fun e => !Region.binds .any e || Nat.blt e.on j) && zD r (j + 1)
def kM (N : Nat) (ops : Array Oper) (j : Nat) (o : Oper) (u : Nat) : List Nat -> Nat -> Bool
 | [], _ => true
 | v :: r, i => (ahead ops ops.size i j || (match ops[i]? with | some x => Oper.apart ops x o && Nq N v u | none => false)) && kM N ops j o u r (i + 1)
section
variable {ρ : Type} (Γ : Orc ρ) (T : Tab)
def rP (σ : St) (o : Oper) : Option V :=
 match o.op with
 | .buildSlice t n parts =>
  match elemTy T t with
  | some (_, te, _) =>
   if Nat.beq n parts.size && Nat.ble (n * te.size) 16777216 then
    match elems σ te 0 parts.toList with
    | some ys => some (.one (.val (.slice te) ys))
    | none => none
   else none
  | none => none
 | _ => none
def Dc (ops : Array Oper) (o : Oper) : Bool :=
 match o.op, o.dst with
 | .buildSlice _ n _, some d => Nat.ble 1 n && ops.toList.any fun p => match p.op with
  | .call { callee := .builtin .append, args, .. } => (match args.toList with | [_, .tmp e] => Nat.beq e d | _ => false)
  | _ => false
 | _, _ => false
def fQ (N : Nat) (ops : Array Oper) : List Oper -> Nat -> List Nat -> St -> (List Nat -> St -> Option ρ) -> Option ρ
 | [], _, us, σ, k => k us σ
 | o :: rest, j, us, σ, k =>
  match o.guard with
  | none =>
   match Dc ops o with
   | true =>
    match rP T σ o with
    | some v =>
     match kM N ops j o 0 us 0 with
     | true => fQ N ops rest (j + 1) (us ++ [0]) ⟨bK σ.r o.dst v, σ.h⟩ k
     | false => none
    | none => none
   | false =>
    match kM N ops j o (aJ Γ.pure σ o) us 0 with
    | true => vM Γ T σ o fun e σ' => match e with | .normal => (match Nat.ble σ.h.length σ'.h.length with | true => fQ N ops rest (j + 1) (us ++ [aJ Γ.pure σ o]) σ' k | false => none) | _ => none
    | false => none
  | some (g, want) =>
   match aL ops g with
   | some s =>
    match σ.r.getD s .aO with
    | .one (.val .bool b) =>
     br b
      (match want with
       | true =>
        match kM N ops j o (aJ Γ.pure ⟨σ.r.set s (.one (.val .bool true)), σ.h⟩ o) us 0 with
        | true => vM Γ T ⟨σ.r.set s (.one (.val .bool true)), σ.h⟩ o fun e σ' => match e with | .normal => (match Nat.ble σ.h.length σ'.h.length with | true => fQ N ops rest (j + 1) (us ++ [aJ Γ.pure ⟨σ.r.set s (.one (.val .bool true)), σ.h⟩ o]) σ' k | false => none) | _ => none
        | false => none
       | false =>
        match kM N ops j o 0 us 0 with
        | true => fQ N ops rest (j + 1) (us ++ [0]) ⟨bK (σ.r.set s (.one (.val .bool true))) o.dst (.tup []), σ.h⟩ k
        | false => none)
      (match want with
       | false =>
        match kM N ops j o (aJ Γ.pure ⟨σ.r.set s (.one (.val .bool false)), σ.h⟩ o) us 0 with
        | true => vM Γ T ⟨σ.r.set s (.one (.val .bool false)), σ.h⟩ o fun e σ' => match e with | .normal => (match Nat.ble σ.h.length σ'.h.length with | true => fQ N ops rest (j + 1) (us ++ [aJ Γ.pure ⟨σ.r.set s (.one (.val .bool false)), σ.h⟩ o]) σ' k | false => none) | _ => none
        | false => none
       | true =>
        match kM N ops j o 0 us 0 with
        | true => fQ N ops rest (j + 1) (us ++ [0]) ⟨bK (σ.r.set s (.one (.val .bool false))) o.dst (.tup []), σ.h⟩ k
        | false => none)
    | .tup [] =>
     match kM N ops j o 0 us 0 with
     | true => fQ N ops rest (j + 1) (us ++ [0]) ⟨bK σ.r o.dst (.tup []), σ.h⟩ k
     | false => none
    | _ => none
   | none => none
end
section
variable {ρ : Type} (π : FuncId -> Option PE) (T : Tab)
def Goes (σ : St) (o : Oper) (v : V) (h' : List Ob) : Prop :=
 match o.op with
 | .call { callee := .value x, args, .. } => ∃ f cs e y, callee σ x = some (f, cs) ∧ π f = some e ∧ e.run (dK σ args.toList ++ cs) σ.h = some (true, some y) ∧ v = (e.enc y (dK σ args.toList ++ cs) σ.h).1 ∧ h' = (e.enc y (dK σ args.toList ++ cs) σ.h).2
 | .pick c x y => ∃ b, ovl σ c = .one (.val .bool b) ∧ v = (if b then ovl σ x else ovl σ y) ∧ h' = σ.h
 | _ => dR T σ o = some (true, v, h')
def does (want : Bool) : V -> Option Bool
 | .one (.val .bool b) => some (b == want)
 | .tup [] => some false
 | _ => none
def kN (ops : Array Oper) (σ : St) (o : Oper) (v : V) (h' : List Ob) : Prop :=
 match o.guard with
 | none => Goes π T σ o v h' ∨ (rP T σ o = some v ∧ h' = σ.h)
 | some (j, want) => ∃ s b, aL ops j = some s ∧ does want (σ.r.getD s .aO) = some b ∧ if b = true then Goes π T σ o v h' else v = .tup [] ∧ h' = σ.h
end
section
variable {ρ : Type} {Γ : Orc ρ} {T : Tab}
end
section
variable {π : FuncId -> Option PE} {T : Tab}
theorem Bw {σ : St} {h2 : List Ob} {d : Option Tmp} {v : V} {x : Operand} (h : ∀ t, d = some t -> x ≠ .tmp t) : ovl ⟨bK σ.r d v, h2⟩ x = ovl σ x := by
 cases x with
 | tmp t =>
  cases d with
  | none => rfl
  | some i =>
   have hne : i ≠ t := fun e => h i rfl (by rw [e])
   simp only [ovl, bK, List.getD_eq_getElem?_getD, List.getElem?_set_ne hne]
 | _ => rfl
theorem mR {σ σ' : St} : ∀ {xs : List Operand}, (∀ x ∈ xs, ovl σ' x = ovl σ x) -> caps σ' xs = caps σ xs
 | [], _ => rfl
 | x :: r, h => by simp only [caps, h x (.head _), mR (xs := r) fun y hy => h y (.tail _ hy)]
theorem mU {σ σ' : St} : ∀ {xs : List Operand}, (∀ x ∈ xs, ovl σ' x = ovl σ x) -> dK σ' xs = dK σ xs
 | [], _ => rfl
 | x :: r, h => by
  have := mU (xs := r) fun y hy => h y (.tail _ hy)
  unfold dK at *
  simp only [List.map_cons, h x (.head _), this]
theorem mV {σ σ' : St} : ∀ {xs : List (Nat × Operand)}, (∀ p ∈ xs, ovl σ' p.2 = ovl σ p.2) -> vals σ' xs = vals σ xs
 | [], _ => rfl
 | (i, x) :: r, h => by simp only [vals, h (i, x) (.head _), mV (xs := r) fun y hy => h y (.tail _ hy)]
theorem iL {σ σ' : St} {te : Ty} : ∀ {xs : List (Nat × Operand)} {k : Nat}, (∀ p ∈ xs, ovl σ' p.2 = ovl σ p.2) -> elems σ' te k xs = elems σ te k xs
 | [], _, _ => rfl
 | (i, x) :: r, k, h => by simp only [elems, h (i, x) (.head _), iL (xs := r) fun y hy => h y (.tail _ hy)]
theorem zF {σ σ' : St} {o : Oper} (hs : ∀ x ∈ o.op.operands, ovl σ' x = ovl σ x) (hh : σ'.h = σ.h) : bD T σ' o = bD T σ o := by
 obtain ⟨dst, op, type, pos, after, guard⟩ := o
 cases op <;> simp only [Op.operands] at hs <;> simp only [bD, hh]
 case slice t x lo hi mx =>
  cases mx with
  | some _ => rfl
  | none =>
   have hx := hs x (by simp)
   have hl : eP σ' lo = eP σ lo := by cases lo with
    | none => rfl
    | some y => simp only [eP, hs y (by simp)]
   have hr : eP σ' hi = eP σ hi := by cases hi with
    | none => rfl
    | some y => simp only [eP, hs y (by cases lo <;> simp)]
   simp only [hx, hl, hr]
 case build t ps => rw [lJ, lJ, mV fun p hp => hs p.2 (by simp at hp ⊢; exact ⟨p.1, hp⟩)]
 case buildSlice t n ps =>
  have : ∀ te, elems σ' te 0 ps.toList = elems σ te 0 ps.toList := fun te => iL fun p hp => hs p.2 (by simp at hp ⊢; exact ⟨p.1, hp⟩)
  simp only [this]
 case makeFunc fn first cs =>
  cases fn <;> simp only []
  rw [mR fun x hx => hs x (by simp at hx ⊢; exact .inr hx)]
 case binOp op xt x y yt => simp only [yX, hs x (by simp), hs y (by simp)]
 case convert a b x => simp only [kK, hs x (by simp)]
 case call c =>
  obtain ⟨cl, args, ats⟩ := c
  cases cl with
  | builtin b =>
   simp only [Call.operands] at hs
   have ha : ∀ x ∈ args.toList, ovl σ' x = ovl σ x := fun x hx => hs x (by simpa using hx)
   cases b <;> simp only []
   all_goals first | rfl | (split <;> simp_all [yY, lK, vL]; done) | skip
  | _ => rfl
 all_goals first | rfl | (simp_all; done) | skip
theorem gZ {σ σ' : St} {te : Ty} : ∀ {ps : List (Nat × Operand)} {xs : List te.den}, (∀ p ∈ ps, ovl σ' p.2 = ovl σ p.2) -> dQ σ' te ps xs = dQ σ te ps xs
 | [], _, _ => rfl
 | (i, x) :: r, xs, h => by
  simp only [dQ, h (i, x) (.head _)]
  have ih := fun (zs : List te.den) => gZ (xs := zs) (ps := r) fun y hy => h y (.tail _ hy)
  simp only [ih]
theorem Av {σ σ' : St} {o : Oper} (hs : ∀ x ∈ o.op.operands, ovl σ' x = ovl σ x) (hh : σ'.h = σ.h) : mO T σ' o = mO T σ o := by
 obtain ⟨dst, op, type, pos, after, guard⟩ := o
 cases op <;> simp only [Op.operands] at hs <;> simp only [mO, hh]
 case field t x f => simp only [hs x (by simp)]
 case unOp op t x => cases op <;> simp only [hs x (by simp)]
 case build t ps =>
  have : ∀ te (xs : List te.den), dQ σ' te ps.toList xs = dQ σ te ps.toList xs := fun te xs => gZ fun p hp => hs p.2 (by simp at hp ⊢; exact ⟨p.1, hp⟩)
  simp only [this]
 case index t x i => simp only [hs x (by simp), hs i (by simp)]
 case convert a b x => simp only [hs x (by simp)]
theorem Aw {σ σ' : St} {o : Oper} (hs : ∀ x ∈ o.op.operands, ovl σ' x = ovl σ x) (hh : σ'.h = σ.h) : stepM T σ' o = stepM T σ o := by
 unfold stepM
 split
 ·rw [hh]
 ·rename_i t m k x ho
  simp only [ho, Op.operands] at hs
  rw [hs m (by simp), hs k (by simp), hs x (by simp), hh]
 ·rename_i t m k ho
  simp only [ho, Op.operands] at hs
  rw [hs m (by simp), hs k (by simp), hh]
 ·rfl
theorem Ay {σ σ' : St} {o : Oper} (hs : ∀ x ∈ o.op.operands, ovl σ' x = ovl σ x) (hh : σ'.h = σ.h) : dR T σ' o = dR T σ o := by
 unfold dR
 split
 ·exact Aw hs hh
 ·split
  ·exact Av hs hh
  ·exact zF hs hh
theorem Goes.congr {σ σ' : St} {o : Oper} {v : V} {h' : List Ob} (h : Goes π T σ o v h') (hs : ∀ x ∈ o.op.operands, ovl σ' x = ovl σ x) (hh : σ'.h = σ.h) : Goes π T σ' o v h' := by
 unfold Goes at *
 split at h
 ·rename_i x args ats ho
  obtain ⟨f, cs, e, y, hc, he, hr, rfl, rfl⟩ := h
  simp only [ho, Op.operands, Call.operands] at hs ⊢
  have e1 : dK σ' args.toList = dK σ args.toList := mU fun x hx => hs x (by simp at hx ⊢; exact .inr hx)
  refine ⟨f, cs, e, y, ?_, he, ?_, by rw [e1, hh], by rw [e1, hh]⟩
  ·rw [<- hc]; simp only [callee, hs x (by simp)]
  ·rw [e1, hh]; exact hr
 ·rename_i c x y ho
  obtain ⟨b, hb, rfl, rfl⟩ := h
  simp only [ho, Op.operands] at hs ⊢
  exact ⟨b, by rw [hs c (by simp)]; exact hb, by rw [hs x (by simp), hs y (by simp)], hh.symm⟩
 ·rename_i hne1 hne2
  rw [Ay hs hh]; exact h
theorem Az {σ : St} {o : Oper} {c : Bool} {v : V} {h' : List Ob} (h : bD T σ o = some (c, v, h')) (hu : bL o = 0) : h' = σ.h ∧ ∀ h2, bD T ⟨σ.r, h2⟩ o = some (c, v, h2) := by
 obtain ⟨dst, op, type, pos, after, guard⟩ := o
 have e : ∀ h2 x, ovl ⟨σ.r, h2⟩ x = ovl σ x := fun h2 x => by cases x <;> rfl
 have e1 : ∀ h2 op xt x y, yX T ⟨σ.r, h2⟩ op xt x y = yX T σ op xt x y := fun h2 op xt x y => by simp only [yX, e]
 have e2 : ∀ h2 a b x, kK T ⟨σ.r, h2⟩ a b x = kK T σ a b x := fun h2 op xt x => by simp only [kK, e]
 have e3 : ∀ h2 t (ps : List (Nat × Operand)), lJ T ⟨σ.r, h2⟩ t ps = lJ T σ t ps := fun h2 t ps => by simp only [lJ]; rw [mV (σ := σ) (σ' := ⟨σ.r, h2⟩) fun p _ => e h2 p.2]
 have e4 : ∀ h2 (ps : List Operand), caps ⟨σ.r, h2⟩ ps = caps σ ps := fun h2 ps => mR fun p _ => e h2 p
 cases op <;> simp only [bL, Nat.succ_ne_zero] at hu <;> simp only [bD, e, e1, e2, e3, e4] at h ⊢
 case call c =>
  obtain ⟨cl, args, ats⟩ := c
  cases cl with
  | builtin b => cases b <;> simp only [Nat.succ_ne_zero] at hu
  | _ => cases h
 case makeFunc fn first cs =>
  cases fn
  case func f =>
   simp only [] at h ⊢
   (repeat' split at h) <;> first
    | (cases h; done)
    | (simp only [Option.some.injEq, Prod.mk.injEq] at h; obtain ⟨rfl, rfl, rfl⟩ := h; exact ⟨rfl, fun h2 => by simp_all⟩)
  all_goals cases h
 all_goals (repeat' split at h) <;> first
  | (cases h; done)
  | (simp only [Option.some.injEq, Prod.mk.injEq] at h; obtain ⟨rfl, rfl, rfl⟩ := h; exact ⟨rfl, fun h2 => by simp_all⟩)
theorem fF {b : Bool} (h : cO b = 0) : b = true := by
 cases b
 ·cases h
 ·rfl
theorem Df {v : V} (h : qM v = 0) : kV v = true := by
 unfold qM at h
 split at h
 ·omega
 ·exact fF h
theorem qY (v : V) : qM v <= 1 ∨ ∃ id off, v = .one (.ptr id off) ∧ qM v = 6 + 2 * id := by
 unfold qM
 split
 ·exact .inr ⟨_, _, rfl, rfl⟩
 ·rename_i v _
  left
  unfold cO
  split <;> omega
theorem kW (v : V) : xV v = 2 ∨ ∃ id off, v = .one (.ptr id off) ∧ xV v = 7 + 2 * id := by
 unfold xV
 split
 ·exact .inr ⟨_, _, rfl, rfl⟩
 ·exact .inl rfl
theorem kX (σ : St) (xs : List Operand) : xU σ xs = 2 ∨ ∃ y x id ver te ys, xs = [y, x] ∧ ovl σ y = .one (.own id ver) ∧ ovl σ x = .one (.val (.slice te) ys) ∧ xU σ xs = 7 + 2 * id := by
 unfold xU
 split
 ·rename_i y x
  split
  ·rename_i id ver te ys h1 h2
   exact .inr ⟨y, x, id, ver, te, ys, rfl, h1, h2, rfl⟩
  ·exact .inl rfl
 ·exact .inl rfl
theorem zG {l : L} (h : oZ (.one l) = true) (hp : List Ob) : l.view hp = l := by
 cases l <;> first | rfl | cases h
theorem Mg {v : V} (h : kV v = true) : oZ v = true := by
 unfold kV at h
 split at h <;> first | rfl | cases h
theorem Dh {σ : St} {o : Oper} {c : Bool} {v : V} {h' : List Ob} (h : bD T σ o = some (c, v, h')) (hu : aJ π σ o = 0) : h' = σ.h ∧ ∀ h2, bD T ⟨σ.r, h2⟩ o = some (c, v, h2) := by
 have h0 := h
 obtain ⟨dst, op, type, pos, after, guard⟩ := o
 have e : ∀ h2 x, ovl ⟨σ.r, h2⟩ x = ovl σ x := fun h2 x => by cases x <;> rfl
 cases op
 case fieldAddr s x f =>
  simp only [aJ] at hu
  have hd := fF hu
  cases hx : ovl σ x with
  | one l =>
   rw [hx] at hd
   obtain ⟨F, hF⟩ : ∃ F : Nat -> Option (Bool × L), ∀ h1 off, rO h1 l off = F off := ⟨fun off => rO [] l off, fun h1 off => by cases l <;> first | rfl | cases hd⟩
   simp only [bD, e, hx] at h ⊢
   (repeat' split at h) <;> first
    | (cases h; done)
    | (simp only [Option.some.injEq, Prod.mk.injEq] at h; obtain ⟨rfl, rfl, rfl⟩ := h; exact ⟨rfl, fun h2 => by simp_all⟩)
  | _ => rw [hx] at hd; cases hd
 case indexAddr t x i =>
  simp only [aJ] at hu
  have hd := fF hu
  cases hx : ovl σ x with
  | one l =>
   rw [hx] at hd
   obtain ⟨F, hF⟩ : ∃ F : TK -> Int -> Option (Bool × L), ∀ h1 k n, vJ T h1 k l n = F k n := ⟨fun k n => vJ T [] k l n, fun h1 k n => by cases l <;> first | (cases hd; done) | (cases k <;> rfl) | (rename_i t1 x1; cases t1 <;> cases k <;> rfl)⟩
   have hv := fun hp => zG hd hp
   simp only [bD, e, hx] at h ⊢
   (repeat' split at h) <;> first
    | (cases h; done)
    | (simp only [Option.some.injEq, Prod.mk.injEq] at h; obtain ⟨rfl, rfl, rfl⟩ := h; exact ⟨rfl, fun h2 => by simp_all⟩)
  | _ => rw [hx] at hd; cases hd
 case load t x =>
  simp only [aJ] at hu
  have hd := Df hu
  cases hx : ovl σ x with
  | one l =>
   rw [hx] at hd
   obtain ⟨F, hF⟩ : ∃ F : Option (Bool × V), ∀ h1, loadAt T h1 t l = F := ⟨loadAt T [] t l, fun h1 => by cases l <;> first | (cases hd; done) | rfl⟩
   simp only [bD, e, hx, hF] at h ⊢
   (repeat' split at h) <;> first
    | (cases h; done)
    | (simp only [Option.some.injEq, Prod.mk.injEq] at h; obtain ⟨rfl, rfl, rfl⟩ := h; exact ⟨rfl, fun h2 => by simp_all⟩)
  | _ => rw [hx] at hd; cases hd
 case slice t x lo hi mx =>
  simp only [aJ] at hu
  have hd := fF hu
  cases mx with
  | some _ => cases h
  | none =>
   have eo : ∀ h2 x, eP ⟨σ.r, h2⟩ x = eP σ x := fun h2 x => by cases x with
    | none => rfl
    | some y => simp only [eP, e]
   cases hx : ovl σ x with
   | one l =>
    rw [hx] at hd
    obtain ⟨F, hF⟩ : ∃ F : TK -> Option Int -> Option Int -> Option (Bool × L), ∀ h1 k a b, slice k l a b h1 = F k a b := ⟨fun k a b => slice k l a b [], fun h1 k a b => by cases l <;> first | (cases hd; done) | (cases k <;> rfl) | (rename_i t1 x1; cases t1 <;> cases k <;> rfl)⟩
    have hv := fun hp => zG (Mg hd) hp
    simp only [bD, e, eo, hx] at h ⊢
    cases l <;> first | (cases hd; done) | skip
    all_goals try simp only [] at h ⊢
    all_goals (repeat' split at h) <;> first
     | (cases h; done)
     | (simp only [Option.some.injEq, Prod.mk.injEq] at h; obtain ⟨rfl, rfl, rfl⟩ := h; exact ⟨rfl, fun h2 => by simp_all⟩)
   | _ => rw [hx] at hd; cases hd
 case call cc =>
  obtain ⟨cl, args, ats⟩ := cc
  cases cl with
  | builtin b =>
   cases b
   case len =>
    simp only [aJ] at hu
    have hd := fF hu
    simp only [bD] at h ⊢
    split at h
    ·rename_i x t _ ha hat
     simp only [ha, dK, List.map_cons, List.map_nil, bI, Bool.and_true] at hd
     have key : ∀ h2, yY T ⟨σ.r, h2⟩ t x = yY T σ t x := fun h2 => by
      simp only [yY, e]
      cases hx : ovl σ x with
      | one l =>
       rw [hx] at hd
       cases T.get t with
       | none => rfl
       | some ti => simp only []; cases l <;> first | (cases hd; done) | rfl | (rename_i t1 x1; cases t1 <;> rfl)
      | _ => rw [hx] at hd; cases hd
     simp only [key]
     split at h
     ·rename_i c1 v1 hl
      simp only [Option.some.injEq, Prod.mk.injEq] at h
      obtain ⟨rfl, rfl, rfl⟩ := h
      exact ⟨rfl, fun h2 => by simp only⟩
     ·cases h
    all_goals first | (cases h; done) | (simp_all; done)
   case append => exfalso; simp only [aJ] at hu; rcases kX σ args.toList with h2 | ⟨_, _, _, _, _, _, _, _, _, h2⟩ <;> omega
   all_goals first | (simp only [aJ, bL, Nat.succ_ne_zero, OfNat.ofNat_ne_zero] at hu; done) | (exfalso; revert hu; simp [aJ, bL]; done)
  | _ => cases h
 case convert a b x =>
  have e2 : ∀ h2, kK T ⟨σ.r, h2⟩ a b x = kK T σ a b x := fun h2 => by simp only [kK, e]
  simp only [bD, e2] at h ⊢
  split at h
  ·rename_i c1 v1 hc
   simp only [Option.some.injEq, Prod.mk.injEq] at h
   obtain ⟨rfl, rfl, rfl⟩ := h
   exact ⟨rfl, fun h2 => by simp only⟩
  ·cases h
 case store t x y =>
  exfalso
  simp only [aJ] at hu
  rcases kW (ovl σ x) with h2 | ⟨id, off, _, h2⟩ <;> omega
 all_goals first | exact Az h0 hu | (exfalso; revert hu; simp [aJ, bL]; done)
theorem Gg {σ : St} {o : Oper} {c : Bool} {v : V} {h' : List Ob} (h : mO T σ o = some (c, v, h')) (hu : aJ π σ o = 0) : h' = σ.h ∧ ∀ h2, mO T ⟨σ.r, h2⟩ o = some (c, v, h2) := by
 obtain ⟨dst, op, type, pos, after, guard⟩ := o
 have e : ∀ h2 x, ovl ⟨σ.r, h2⟩ x = ovl σ x := fun h2 x => by cases x <;> rfl
 cases op <;> simp only [mO, e] at h ⊢
 case unOp op t x =>
  cases op <;> simp only [reduceCtorEq] at h ⊢
  (repeat' split at h) <;> first
   | (cases h; done)
   | (simp only [Option.some.injEq, Prod.mk.injEq] at h; obtain ⟨rfl, rfl, rfl⟩ := h; exact ⟨rfl, fun h2 => by simp_all⟩)
 case build t ps =>
  have es : ∀ h2 te (xs : List te.den), dQ ⟨σ.r, h2⟩ te ps.toList xs = dQ σ te ps.toList xs := fun h2 te xs => gZ fun p _ => e h2 p.2
  simp only [es] at h ⊢
  (repeat' split at h) <;> first
   | (cases h; done)
   | (simp only [Option.some.injEq, Prod.mk.injEq] at h; obtain ⟨rfl, rfl, rfl⟩ := h; exact ⟨rfl, fun h2 => by simp_all⟩)
 case field t x f =>
  (repeat' split at h) <;> first
   | (cases h; done)
   | (simp only [Option.some.injEq, Prod.mk.injEq] at h; obtain ⟨rfl, rfl, rfl⟩ := h; exact ⟨rfl, fun h2 => by simp_all⟩)
 case index t x i =>
  (repeat' split at h) <;> first
   | (cases h; done)
   | (simp only [Option.some.injEq, Prod.mk.injEq] at h; obtain ⟨rfl, rfl, rfl⟩ := h; exact ⟨rfl, fun h2 => by simp_all⟩)
 case convert a b x =>
  simp only [aJ] at hu
  split at hu
  ·rename_i k n hx
   exfalso
   rw [hx] at h
   cases hA : T.get a with
   | none => simp [hA] at h
   | some ts =>
    cases hB : T.get b with
    | none => simp [hA, hB] at h
    | some td =>
     simp only [hA, hB] at h
     split at h
     ·rename_i e1 hk hd
      cases he : T.get e1 with
      | none => simp [he] at h
      | some te =>
       simp only [he] at h
       split at h
       ·simp [rowsOf] at h
       ·cases h
     ·rename_i e1 hk hd
      cases he : T.get e1 with
      | none => simp [he] at h
      | some te => simp [he] at h
     ·cases h
  ·cases hu
 all_goals cases h
theorem Gh {σ : St} {o : Oper} {c : Bool} {v : V} {h' : List Ob} (h : dR T σ o = some (c, v, h')) (hu : aJ π σ o = 0) : h' = σ.h ∧ ∀ h2, dR T ⟨σ.r, h2⟩ o = some (c, v, h2) := by
 unfold dR at h
 split at h
 ·rename_i hm
  exfalso
  unfold isM at hm
  split at hm
  ·rename_i ho; simp [aJ, bL, ho] at hu
  ·rename_i ho; simp [aJ, bL, ho] at hu
  ·rename_i ho; simp [aJ, bL, ho] at hu
  ·cases hm
 ·rename_i hm
  split at h
  ·rename_i hx
   obtain ⟨h1, h2⟩ := Gg h hu
   exact ⟨h1, fun h3 => by unfold dR; rw [hm, hx]; exact h2 h3⟩
  ·rename_i hx
   obtain ⟨h1, h2⟩ := Dh h hu
   exact ⟨h1, fun h3 => by unfold dR; rw [hm, hx]; exact h2 h3⟩
theorem Goes.dry {P : Program} (hπ : ∀ f e, π f = some e -> e.OK P f) {σ : St} {o : Oper} {v : V} {h' : List Ob} (h : Goes π T σ o v h') (hu : aJ π σ o = 0) : h' = σ.h ∧ ∀ h2, Goes π T ⟨σ.r, h2⟩ o v h2 := by
 unfold Goes at *
 split at h
 ·rename_i x args ats ho
  obtain ⟨f, cs, e, y, hc, he, hr, rfl, rfl⟩ := h
  simp only [aJ, ho, hc, he] at hu
  split at hu
  ·rename_i hle
   have hok := hπ f e he
   have hd := fF hu
   refine ⟨hok.same hle _ _ _, fun h2 => ?_⟩
   have ha : dK ⟨σ.r, h2⟩ args.toList = dK σ args.toList := mU fun x _ => by cases x <;> rfl
   have hcl : callee ⟨σ.r, h2⟩ x = callee σ x := by
    have : ovl ⟨σ.r, h2⟩ x = ovl σ x := by cases x <;> rfl
    simp only [callee, this]
   refine ⟨f, cs, e, y, by rw [hcl]; exact hc, he, ?_, ?_, ?_⟩
   ·rw [ha, (hok.dry hle _ h2 σ.h hd).1]; exact hr
   ·rw [ha]; exact (hok.dry hle _ h2 σ.h hd).2 y ▸ rfl
   ·rw [hok.same hle]
  ·cases hu
 ·rename_i c x y ho
  obtain ⟨b, hb, rfl, rfl⟩ := h
  exact ⟨rfl, fun h2 => ⟨b, hb, rfl, rfl⟩⟩
 ·exact Gh h hu
theorem Ld {σ : St} {o : Oper} (h : 6 <= aJ π σ o) : (∃ t x id off, o.op = .load t x ∧ ovl σ x = .one (.ptr id off) ∧ aJ π σ o = 6 + 2 * id) ∨ (∃ t x y id off, o.op = .store t x y ∧ ovl σ x = .one (.ptr id off) ∧ aJ π σ o = 7 + 2 * id) ∨
  ∃ args ats y x id ver te ys, o.op = .call { callee := .builtin .append, args := args, argTypes := ats } ∧ args.toList = [y, x] ∧ ovl σ y = .one (.own id ver) ∧ ovl σ x = .one (.val (.slice te) ys) ∧ aJ π σ o = 7 + 2 * id := by
 obtain ⟨dst, op, type, pos, after, guard⟩ := o
 cases op
 case load t x =>
  simp only [aJ] at h ⊢
  rcases qY (ovl σ x) with h2 | ⟨id, off, h1, h2⟩
  ·omega
  ·exact .inl ⟨t, x, id, off, rfl, h1, h2⟩
 case store t x y =>
  simp only [aJ] at h ⊢
  rcases kW (ovl σ x) with h2 | ⟨id, off, h1, h2⟩
  ·omega
  ·exact .inr (.inl ⟨t, x, y, id, off, rfl, h1, h2⟩)
 case call cc =>
  obtain ⟨cl, args, ats⟩ := cc
  cases cl with
  | value x =>
   exfalso
   simp only [aJ] at h
   split at h
   ·split at h
    ·split at h
     ·revert h; generalize bI V.isD _ = b; cases b <;> simp [cO]
     ·omega
    ·omega
   ·omega
  | builtin b =>
   cases b
   case append =>
    simp only [aJ] at h ⊢
    rcases kX σ args.toList with h2 | ⟨y, x, id, ver, te, ys, h1, h3, h4, h2⟩
    ·omega
    ·exact .inr (.inr ⟨args, ats, y, x, id, ver, te, ys, rfl, h1, h3, h4, h2⟩)
   all_goals exfalso
   case len => revert h; simp only [aJ]; generalize bI kV _ = b; cases b <;> simp [cO]
   all_goals (revert h; simp [aJ, bL])
  | _ => exfalso; revert h; simp [aJ, bL]
 case convert a b x =>
  exfalso
  simp only [aJ] at h
  split at h <;> omega
 case fieldAddr s x f => exfalso; revert h; simp only [aJ]; generalize oZ _ = b; cases b <;> simp [cO]
 case indexAddr s x f => exfalso; revert h; simp only [aJ]; generalize oZ _ = b; cases b <;> simp [cO]
 case slice t x lo hi mx => exfalso; revert h; simp only [aJ]; generalize kV _ = b; cases b <;> simp [cO]
 all_goals (exfalso; revert h; simp [aJ, bL])
theorem Ig {σ : St} {o : Oper} (h : aJ π σ o = 3) : (∃ t n ps, o.op = .buildSlice t n ps) ∨ (∃ t, o.op = .alloc t) ∨ ∃ t x, o.op = .box t x := by
 obtain ⟨dst, op, type, pos, after, guard⟩ := o
 cases op
 case buildSlice t n ps => exact .inl ⟨t, n, ps, rfl⟩
 case alloc t => exact .inr (.inl ⟨t, rfl⟩)
 case box t x => exact .inr (.inr ⟨t, x, rfl⟩)
 case call cc =>
  exfalso
  obtain ⟨cl, args, ats⟩ := cc
  cases cl with
  | value x =>
   simp only [aJ] at h
   split at h
   ·split at h
    ·split at h
     ·revert h; generalize bI V.isD _ = b; cases b <;> simp [cO]
     ·cases h
    ·cases h
   ·cases h
  | builtin b =>
   cases b
   case append => simp only [aJ] at h; rcases kX σ args.toList with h2 | ⟨_, _, _, _, _, _, _, _, _, h2⟩ <;> omega
   case len => revert h; simp only [aJ]; generalize bI kV _ = b; cases b <;> simp [cO]
   all_goals (revert h; simp [aJ, bL])
  | _ => revert h; simp [aJ, bL]
 case convert a b x =>
  exfalso
  simp only [aJ] at h
  split at h <;> cases h
 case load t x =>
  exfalso
  simp only [aJ] at h
  rcases qY (ovl σ x) with h2 | ⟨id, off, _, h2⟩ <;> omega
 case store t x y =>
  exfalso
  simp only [aJ] at h
  rcases kW (ovl σ x) with h2 | ⟨id, off, _, h2⟩ <;> omega
 case fieldAddr s x f => exfalso; revert h; simp only [aJ]; generalize oZ _ = b; cases b <;> simp [cO]
 case indexAddr s x f => exfalso; revert h; simp only [aJ]; generalize oZ _ = b; cases b <;> simp [cO]
 case slice t x lo hi mx => exfalso; revert h; simp only [aJ]; generalize kV _ = b; cases b <;> simp [cO]
 all_goals (exfalso; revert h; simp [aJ, bL])
def Di (fo : Option Ob) (id : Nat) (h : List Ob) : List Ob := match fo with | none => h | some o => h.set id o
theorem Gi {h h2 : List Ob} {t : TypeId} {id off : Nat} (he : h2[id]? = h[id]?) : loadAt T h2 t (.ptr id off) = loadAt T h t (.ptr id off) := by
 simp only [loadAt, he]
theorem Dj {h : List Ob} {t : TypeId} {id off : Nat} {v : V} {c : Bool} {h' : List Ob} (hs : storeAt T h t (.ptr id off) v = some (c, h')) :
  id < h.length ∧ ∃ o, h' = h.set id o ∧ ∀ h2, h2[id]? = h[id]? -> storeAt T h2 t (.ptr id off) v = some (c, h2.set id o) := by
 unfold storeAt at hs ⊢
 split at hs
 ·rename_i ti new hti hnew
  split at hs
  ·rename_i hsz
   simp only at hs ⊢
   split at hs
   ·rename_i e ls ho
    cases hm : tF ls off new with
    | none => rw [hm] at hs; cases hs
    | some ls' =>
     rw [hm] at hs
     simp only [Option.map_some, Option.some.injEq, Prod.mk.injEq] at hs
     obtain ⟨rfl, rfl⟩ := hs
     refine ⟨(List.getElem?_eq_some_iff.1 ho).1, _, rfl, fun h2 he => ?_⟩
     rw [if_pos hsz, he, ho]
     simp only [hm, Option.map_some]
   ·cases hs
  ·cases hs
 ·cases hs
theorem Dk {σ : St} {t : TypeId} {s x : Operand} {id ver : Nat} {ta : Ty} {za : (Ty.slice ta).den} {c : Bool} {v : V} {h' : List Ob} (hs : ovl σ s = .one (.own id ver)) (hx : ovl σ x = .one (.val (.slice ta) za)) (h : lK T σ t s x = some (c, v, h')) :
  id < σ.h.length ∧ ∃ o', h' = σ.h.set id o' ∧ ∀ h2, h2[id]? = σ.h[id]? -> lK T ⟨σ.r, h2⟩ t s x = some (c, v, h2.set id o') := by
 have e : ∀ h2 y, ovl ⟨σ.r, h2⟩ y = ovl σ y := fun h2 y => by cases y <;> rfl
 unfold lK at h ⊢
 simp only [e, hs, hx] at h ⊢
 split at h
 ·rename_i ee te ti ls lx h1 h2 h3
  simp only [V.one.injEq] at h2 h3
  subst h2 h3
  simp only [h1]
  have er : ∀ h2, rowsOf h2 te (.val (.slice ta) za) = rowsOf σ.h te (.val (.slice ta) za) := fun _ => rfl
  simp only [er]
  split at h
  ·rename_i c1 ys hr
   simp only at h
   split at h
   ·rename_i e' t' v' rows ho
    split at h
    ·rename_i hc
     simp only [Option.some.injEq, Prod.mk.injEq] at h
     obtain ⟨rfl, rfl, rfl⟩ := h
     refine ⟨(List.getElem?_eq_some_iff.1 ho).1, _, rfl, fun h2 he => ?_⟩
     simp only [he, ho]
     rw [dif_pos hc]
    ·cases h
   ·cases h
  ·cases h
 ·cases h
theorem Goes.at6 {P : Program} {σ : St} {o : Oper} {v : V} {h' : List Ob} (h : Goes π T σ o v h') (hu : 6 <= aJ π σ o) :
  ∃ (id : Nat) (fo : Option Ob), aJ π σ o / 2 = id + 3 ∧ id < σ.h.length ∧ (aJ π σ o % 2 = 0 -> fo = none) ∧ h' = Di fo id σ.h ∧ ∀ h2, h2[id]? = σ.h[id]? -> Goes π T ⟨σ.r, h2⟩ o v (Di fo id h2) := by
 obtain ⟨dst, op, type, pos, after, guard⟩ := o
 have e : ∀ h2 y, ovl ⟨σ.r, h2⟩ y = ovl σ y := fun h2 y => by cases y <;> rfl
 rcases Ld hu with ⟨t, x, id, off, ho, hx, hq⟩ | ⟨t, x, y, id, off, ho, hx, hq⟩ | ⟨args, ats, y, x, id, ver, te, ys, ho, hargs, hy, hx, hq⟩
 ·simp only at ho
  subst ho
  refine ⟨id, none, by omega, ?_⟩
  unfold Goes at h ⊢
  simp only [dR, isM, isX, bD, e, hx] at h ⊢
  split at h
  ·rename_i c u hc
   simp only [Option.some.injEq, Prod.mk.injEq] at h
   obtain ⟨rfl, rfl, rfl⟩ := h
   refine ⟨?_, fun _ => trivial, rfl, fun h2 he => ?_⟩
   ·rcases Nat.lt_or_ge id σ.h.length with hlt | hge
    ·exact hlt
    ·exfalso
     unfold loadAt at hc
     split at hc
     ·cases hc
     ·simp only [List.getElem?_eq_none hge] at hc
      cases hc
   ·rw [Gi he, hc]; rfl
  ·cases h
 ·simp only at ho
  subst ho
  unfold Goes at h
  simp only [dR, isM, isX, bD, e, hx] at h
  split at h
  ·rename_i c h1 hc
   simp only [Option.some.injEq, Prod.mk.injEq] at h
   obtain ⟨rfl, rfl, rfl⟩ := h
   obtain ⟨hlt, o', rfl, hall⟩ := Dj hc
   refine ⟨id, some o', by omega, hlt, fun h0 => by omega, rfl, fun h2 he => ?_⟩
   unfold Goes
   simp only [dR, isM, isX, bD, e, hx, hall h2 he]
   rfl
  ·cases h
 ·simp only at ho
  subst ho
  unfold Goes at h ⊢
  simp only [dR, isM, isX, bD, hargs] at h ⊢
  cases hts : ats.toList with
  | nil => rw [hts] at h; cases h
  | cons t1 r1 =>
   cases r1 with
   | nil => rw [hts] at h; cases h
   | cons t2 r2 =>
    cases r2 with
    | cons _ _ => rw [hts] at h; cases h
    | nil =>
     rw [hts] at h
     simp only at h ⊢
     split at h
     ·rename_i htt
      obtain ⟨hlt, o', rfl, hall⟩ := Dk hy hx h
      refine ⟨id, some o', by omega, hlt, fun h0 => by omega, rfl, fun h2 he => ?_⟩
      rw [if_pos htt]
      exact hall h2 he
     ·unfold vL at h
      simp only [hy, hx] at h
      split at h
      ·rename_i h4; simp at h4
      ·cases h
theorem Goes.row {P : Program} {σ : St} {o : Oper} {v : V} {h' : List Ob} (h : Goes π T σ o v h') (hu : aJ π σ o = 3) : ∃ os, h' = σ.h ++ os ∧ ∀ h2, h2.length = σ.h.length -> Goes π T ⟨σ.r, h2⟩ o v (h2 ++ os) := by
 have key := Ig hu
 obtain ⟨dst, op, type, pos, after, guard⟩ := o
 have e : ∀ h2 y, ovl ⟨σ.r, h2⟩ y = ovl σ y := fun h2 y => by cases y <;> rfl
 have el : ∀ h2 te k ps, elems ⟨σ.r, h2⟩ te k ps = elems σ te k ps := fun h2 te k ps => iL fun p _ => e h2 p.2
 simp only at key
 rcases key with ⟨t, n, ps, ho⟩ | ⟨t, ho⟩ | ⟨t, x, ho⟩ <;> subst ho <;> unfold Goes at h ⊢ <;> simp only [dR, isM, isX, bD, e, el] at h ⊢
 ·split at h
  ·rename_i e1 te ti h1
   split at h
   ·rename_i hc
    split at h
    ·rename_i ys hy
     simp only [Option.some.injEq, Prod.mk.injEq] at h
     obtain ⟨_, rfl, rfl⟩ := h
     exact ⟨_, rfl, fun h2 hl => by simp only [h1, if_pos hc, hy, hl]⟩
    ·cases h
   ·cases h
  ·cases h
 ·split at h
  ·rename_i ti h1
   simp only [Option.some.injEq, Prod.mk.injEq] at h
   obtain ⟨_, rfl, rfl⟩ := h
   exact ⟨_, rfl, fun h2 hl => by simp only [h1, hl]⟩
  ·cases h
 ·split at h
  ·rename_i ls h1
   simp only [Option.some.injEq, Prod.mk.injEq] at h
   obtain ⟨_, rfl, rfl⟩ := h
   exact ⟨_, rfl, fun h2 hl => by simp only [h1, hl]⟩
  ·cases h
theorem wE {r : List V} {x : Option Tmp} {u : V} {s : Nat} (h : ∀ d, x = some d -> s ≠ d) : (bK r x u).getD s .aO = r.getD s .aO := by
 cases x with
 | none => rfl
 | some i => simp only [bK, List.getD_eq_getElem?_getD, List.getElem?_set_ne (fun e => h i rfl e.symm)]
theorem Dl {σ σ' : St} {o : Oper} (hs : ∀ x ∈ o.op.operands, ovl σ' x = ovl σ x) : rP T σ' o = rP T σ o := by
 obtain ⟨dst, op, type, pos, after, guard⟩ := o
 cases op <;> simp only [Op.operands] at hs <;> simp only [rP]
 case buildSlice t n ps =>
  have : ∀ te, elems σ' te 0 ps.toList = elems σ te 0 ps.toList := fun te => iL fun p hp => hs p.2 (by simp at hp ⊢; exact ⟨p.1, hp⟩)
  simp only [this]
theorem kN.move {ops : Array Oper} {σ σ' : St} {o : Oper} {v : V} {h' : List Ob} (h : kN π T ops σ o v h') (d : Option Tmp) (u : V) (hr : σ'.r = bK σ.r d u ∨ σ.r = bK σ'.r d u) (hh : σ'.h = σ.h) (ha : ∀ t, d = some t -> t ∉ o.looksAt ops) : kN π T ops σ' o v h' := by
 have Ih : ∀ x ∈ o.op.operands, ovl σ' x = ovl σ x := fun x hx => by
  have hne : ∀ t, d = some t -> x ≠ .tmp t := fun t ht e => ha t ht (by
   subst e
   exact List.mem_append_left _ (List.mem_filterMap.2 ⟨.tmp t, by simpa using hx, rfl⟩))
  rcases hr with hr | hr
  ·rw [show σ' = ⟨bK σ.r d u, σ'.h⟩ by rw [<- hr]]; exact Bw hne
  ·rw [show σ = ⟨bK σ'.r d u, σ.h⟩ by rw [<- hr]]; exact (Bw hne).symm
 have Ou : rP T σ' o = rP T σ o := Dl Ih
 unfold kN at *
 split at h
 ·rcases h with h | h
  ·exact .inl (h.congr Ih hh)
  ·exact .inr ⟨by rw [Ou]; exact h.1, by rw [hh]; exact h.2⟩
 ·rename_i j want hg
  obtain ⟨s, b, hsl, hb, h⟩ := h
  have hs : ∀ t, d = some t -> s ≠ t := fun t ht e => ha t ht (by
   subst e
   refine List.mem_append_right _ ?_
   simp only [hg]
   unfold aL at hsl
   rw [hsl]
   simp)
  have e : σ'.r.getD s .aO = σ.r.getD s .aO := by
   rcases hr with hr | hr
   ·rw [hr]; exact wE hs
   ·rw [hr]; exact (wE hs).symm
  refine ⟨s, b, hsl, by rw [e]; exact hb, ?_⟩
  split
  ·rename_i hw; rw [if_pos hw] at h; exact h.congr Ih hh
  ·rename_i hw; rw [if_neg hw] at h; exact ⟨h.1, by rw [hh]; exact h.2⟩
structure Dm (π : FuncId -> Option PE) (T : Tab) (ops : Array Oper) (σ : St) (o : Oper) (u : Nat) (v : V) (h' : List Ob) : Prop where
 goes : kN π T ops σ o v h'
 dry : u = 0 -> h' = σ.h ∧ ∀ h2, kN π T ops ⟨σ.r, h2⟩ o v h2
 same : rdB u = true -> h' = σ.h
 at6 : 6 <= u -> ∃ (id : Nat) (fo : Option Ob), u / 2 = id + 3 ∧ id < σ.h.length ∧ (u % 2 = 0 -> fo = none) ∧ h' = Di fo id σ.h ∧ ∀ h2, h2[id]? = σ.h[id]? -> kN π T ops ⟨σ.r, h2⟩ o v (Di fo id h2)
 row : u = 3 -> ∃ os, h' = σ.h ++ os ∧ ∀ h2, h2.length = σ.h.length -> kN π T ops ⟨σ.r, h2⟩ o v (h2 ++ os)
 grow : σ.h.length <= h'.length
theorem Dm.move {ops : Array Oper} {σ σ' : St} {o : Oper} {w : Nat} {v : V} {h' : List Ob} (h : Dm π T ops σ o w v h') (d : Option Tmp) (u : V) (hr : σ'.r = bK σ.r d u ∨ σ.r = bK σ'.r d u) (hh : σ'.h = σ.h) (ha : ∀ t, d = some t -> t ∉ o.looksAt ops) : Dm π T ops σ' o w v h' := by
 refine ⟨h.goes.move d u hr hh ha, fun h0 => ⟨by rw [hh]; exact (h.dry h0).1, fun h2 => ?_⟩, fun h1 => by rw [hh]; exact h.same h1, fun h6 => ?_, fun h3 => ?_, by rw [hh]; exact h.grow⟩
 ·exact ((h.dry h0).2 h2).move d u hr rfl ha
 ·obtain ⟨id, fo, k1, k2, k3, k4, k5⟩ := h.at6 h6
  exact ⟨id, fo, k1, by rw [hh]; exact k2, k3, by rw [hh]; exact k4, fun h2 he => (k5 h2 (by rw [he, hh])).move d u hr rfl ha⟩
 ·obtain ⟨os, k1, k2⟩ := h.row h3
  exact ⟨os, by rw [hh]; exact k1, fun h2 he => (k2 h2 (by rw [he, hh])).move d u hr rfl ha⟩
end
section
variable {ρ : Type} {Γ : Orc ρ} {T : Tab}
theorem Sim.alloc {C : Ctx} {β : Nat -> Pl} {σ : St} {a : Act} {w : World} (hs : Sim C β σ a w) (ob : Obj) : Sim C β σ a (w.alloc ob) := by
 have hold : ∀ b : Nat, b < w.heap.size -> (w.alloc ob).heap[b]? = w.heap[b]? := fun b hb => (jE w ob).2 b hb fun _ h => h
 have hlt : w.heap.size <= (w.alloc ob).heap.size := (jE w ob).1
 have hk : Keep (C.N β σ.h) w (w.alloc ob) := (jE w ob).weaken fun _ _ h => h.elim
 refine ⟨⟨fun id o ho => ?_, hs.heap.dead, hs.heap.gX, fun id o b ho hb => ?_, hs.heap.n0, hs.heap.frame.yP (jE w ob) fun _ _ _ h => h.elim, Nat.le_trans hs.heap.size hlt, hs.heap.os, hs.heap.tape, hs.heap.output, hs.heap.fixed⟩, hs.defers, hs.size, fun i v hv => (hs.reg i v hv).mono (Moves.refl β) hk fun _ _ _ h => h⟩
 ·exact (hs.heap.obj id o ho).mono (Moves.refl β) hk (fun _ _ _ h => h) fun b hb => hold b (hs.heap.fM id o b ho hb).2.1
 ·obtain ⟨h1, h2, h3⟩ := hs.heap.fM id o b ho hb
  exact ⟨h1, Nat.lt_of_lt_of_le h2 hlt, h3⟩
end
section
variable {ρ : Type} {Γ : Orc ρ} {T : Tab}
theorem Sim.drawn {C : Ctx} {β : Nat -> Pl} {σ : St} {a : Act} {w : World} (hs : Sim C β σ a w) (n : Nat) : Sim C β σ a { w with drawn := n } := by
 have hk : Keep (C.N β σ.h) w { w with drawn := n } := ⟨Nat.le_refl _, fun b hb _ => rfl, fun _ _ _ _ _ h => h⟩
 refine ⟨⟨fun id o ho => ?_, hs.heap.dead, hs.heap.gX, hs.heap.fM, hs.heap.n0, ⟨hs.heap.frame.1, hs.heap.frame.2, hs.heap.frame.3⟩, hs.heap.size, hs.heap.os, hs.heap.tape, hs.heap.output, hs.heap.fixed⟩, hs.defers, hs.size, fun i v hv => (hs.reg i v hv).mono (Moves.refl β) hk fun _ _ _ h => h⟩
 exact (hs.heap.obj id o ho).mono (Moves.refl β) hk (fun _ _ _ h => h) fun b hb => rfl
def Nr {ρ : Type} (Γ : Orc ρ) (o : Oper) : Option (FuncId × Array Operand) :=
 match o.op, o.guard with
 | .call { callee := .value (.func f), args, .. }, none => match Γ.pure f with
  | none => some (f, args)
  | some _ => none
 | _, _ => none
def Gj {ρ : Type} (Γ : Orc ρ) : List Oper -> Nat -> Option (Nat × Oper × FuncId × Array Operand)
 | [], _ => none
 | o :: r, i => match Nr Γ o with
  | some (f, args) => some (i, o, f, args)
  | none => Gj Γ r (i + 1)
def Ns (ids : List Nat) (u : Nat) : Bool := Nat.beq u 0 || (Mf u && match pos (u / 2 - 3) ids 0 with | none => true | some _ => false)
def Bz (ops : Array Oper) (j : Nat) (o : Oper) (ids : List Nat) : List Nat -> Nat -> Bool
 | [], _ => true
 | v :: r, i => (ahead ops ops.size i j || (match ops[i]? with | some x => Oper.apart ops x o && Ns ids v | none => false)) && Bz ops j o ids r (i + 1)
def zH (ops : Array Oper) (j : Nat) : Nat -> Nat -> Bool
 | 0, _ => true
 | n + 1, i => ahead ops ops.size j i && zH ops j n (i + 1)
def Lf {ρ : Type} (Γ : Orc ρ) (T : Tab) (ops : Array Oper) (σ : St) (k : K ρ) : Option ρ :=
 match zD ops.toList 0 with
 | true =>
  match Gj Γ ops.toList 0 with
  | none => fQ Γ.quiet T σ.h.length ops ops.toList 0 [] σ fun _ σ' => k .normal σ'
  | some (j, o, f, args) =>
   fQ Γ.quiet T 0 ops (ops.toList.take j) 0 [] σ fun us σ1 =>
    match zH ops j (ops.size - (j + 1)) (j + 1) && Bz ops j o (reach (dK σ1 args.toList) σ1.h) us 0 with
    | true => Γ.gen f (dK σ1 args.toList) σ1.h fun out h' => match out with
      | .ret v => fQ Γ.quiet T 0 ops (ops.toList.drop (j + 1)) (j + 1) (us ++ [0]) ⟨bK σ1.r o.dst v, h'⟩ fun _ σ2 => k .normal σ2
      | .pan t v => k (.pan t v) ⟨σ1.r.map fun _ => .aO, h'⟩
    | false => none
 | false => none
theorem Sim.aO {C : Ctx} {β : Nat -> Pl} {σ : St} {a : Act} {w : World} (hs : Sim C β σ a w) {n : Nat} (hn : σ.r.length = n) (r : List V) (hr : r.length = n) : Sim C β ⟨r.map fun _ => .aO, σ.h⟩ a w := by
 refine ⟨hs.heap, hs.defers, by rw [<- hs.size, hn]; simpa using hr, fun i v hv => ?_⟩
 simp only [List.getElem?_map] at hv
 cases h : r[i]? with
 | none => rw [h] at hv; cases hv
 | some u => rw [h] at hv; simp at hv; subst hv; trivial
end
end Go.Dec
