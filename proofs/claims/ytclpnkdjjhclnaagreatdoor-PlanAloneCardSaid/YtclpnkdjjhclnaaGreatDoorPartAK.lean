/- Part of a proof over this seat: a library of my own, and what it says of this seat. No statement is proved here. -/
import Derived.Test.YtclpnkdjjhclnaaGreatDoorPartAJ
import Derived.Test.YtclpnkdjjhclnaaGreatDoorPartAH
import Derived.LoopN
import Derived.ScopeJumps
namespace Go.Dec
inductive LS where
 | v (t : Ty)
 | ptr (id off : Nat)
 | own (id : Nat)
 | clo (f : Nat) (caps : List (Nat × Nat))
 | any (n : Nat)
 | bE (id off : Nat)
 | sl (id : Nat)
 | bH
 | bB (id off : Nat)
 | mp (id : Nat)
def Pk (caps : List (Nat × Nat)) : List L := caps.map fun p => .ptr p.1 p.2
def Kg : List (Nat × Nat) -> List L -> Bool
 | [], [] => true
 | p :: r, .ptr a b :: m => Nat.beq p.1 a && (Nat.beq p.2 b && Kg r m)
 | _, _ => false
@[reducible] def LTs : List LS -> Type -> Type
 | [], A => A
 | .v t :: r, A => t.den × LTs r A
 | .bE _ _ :: r, A => Nat × LTs r A
 | .sl _ :: r, A => Nat × (Nat × LTs r A)
 | .ptr _ _ :: r, A => LTs r A
 | .own _ :: r, A => LTs r A
 | .clo _ _ :: r, A => LTs r A
 | .any _ :: r, A => LTs r A
 | .bH :: r, A => LTs r A
 | .bB _ _ :: r, A => LTs r A
 | .mp _ :: r, A => LTs r A
structure Slot where
 i : Nat
 agg : Bool
 ls : List LS
inductive OS where
 | box (e : TypeId) (ls : List LS)
 | row (e : TypeId) (t : Ty)
 | fm (tab : List (MK × Nat))
@[reducible] def RTs : List Slot -> Type -> Type
 | [], A => A
 | s :: r, A => LTs s.ls (RTs r A)
@[reducible] def OTs : List OS -> Type -> Type
 | [], A => A
 | .box _ ls :: r, A => LTs ls (OTs r A)
 | .row _ t :: r, A => List t.den × OTs r A
 | .fm _ :: r, A => OTs r A
structure Sh where
 n : Nat
 rs : List Slot
 os : List OS
@[reducible] def Sh.X (sh : Sh) : Type := RTs sh.rs (OTs sh.os Unit)
def bC {A : Type} : (ls : List LS) -> LTs ls A -> List L × A
 | [], x => ([], x)
 | .v t :: r, x => (.val t x.1 :: (bC r x.2).1, (bC r x.2).2)
 | .ptr a b :: r, x => (.ptr a b :: (bC (A := A) r x).1, (bC (A := A) r x).2)
 | .own a :: r, x => (.own a 0 :: (bC (A := A) r x).1, (bC (A := A) r x).2)
 | .clo f caps :: r, x => (.clo f (Pk caps) :: (bC (A := A) r x).1, (bC (A := A) r x).2)
 | .bE a o :: r, x => (.bE a 0 x.1 o :: (bC r x.2).1, (bC r x.2).2)
 | .sl a :: r, x => (.sl a 0 x.1 x.2.1 :: (bC r x.2.2).1, (bC r x.2.2).2)
 | .bH :: r, x => (.bH :: (bC (A := A) r x).1, (bC (A := A) r x).2)
 | .bB a b :: r, x => (.bB a b :: (bC (A := A) r x).1, (bC (A := A) r x).2)
 | .mp a :: r, x => (.mp a :: (bC (A := A) r x).1, (bC (A := A) r x).2)
 | .any n :: r, x => (.bad n :: (bC (A := A) r x).1, (bC (A := A) r x).2)
def Mi (agg : Bool) (ls : List L) : V :=
 match agg, ls with
 | true, ls => .agg ls
 | false, [l] => .one l
 | _, _ => .aO
def Kh {A : Type} : (rs : List Slot) -> List V -> RTs rs A -> List V × A
 | [], acc, x => (acc, x)
 | s :: r, acc, x => Kh r (acc.set s.i (Mi s.agg (bC s.ls x).1)) (bC s.ls x).2
def nA {A : Type} : (os : List OS) -> OTs os A -> List Ob × A
 | [], x => ([], x)
 | .box e ls :: r, x => (.box e (bC ls x).1 :: (nA r (bC ls x).2).1, (nA r (bC ls x).2).2)
 | .row e t :: r, x => (.arr e t 0 x.1 true :: (nA r x.2).1, (nA r x.2).2)
 | .fm tab :: r, x => (.fm tab :: (nA (A := A) r x).1, (nA (A := A) r x).2)
def Sh.enc (sh : Sh) (x : sh.X) : St :=
 let p := Kh sh.rs (List.replicate sh.n .aO) x
 ⟨p.1, (nA sh.os p.2).1⟩
def gB {A : Type} : (ls : List LS) -> List L -> Option (A -> LTs ls A)
 | [], [] => some id
 | .v t :: r, l :: m =>
  match l.asT t, gB (A := A) r m with
  | some x, some f => some fun a => (x, f a)
  | _, _ => none
 | .ptr a b :: r, .ptr a' b' :: m => match Nat.beq a a' && Nat.beq b b' with
  | true => gB (A := A) r m
  | false => none
 | .own a :: r, .own a' u :: m => match Nat.beq a a' && Nat.beq u 0 with
  | true => gB (A := A) r m
  | false => none
 | .clo f caps :: r, .clo f' m' :: m => match Nat.beq f f' && Kg caps m' with
  | true => gB (A := A) r m
  | false => none
 | .bE a o :: r, .bE a' u i o' :: m => match Nat.beq a a' && (Nat.beq u 0 && Nat.beq o o'), gB (A := A) r m with
  | true, some f => some fun x => (i, f x)
  | _, _ => none
 | .sl a :: r, .sl a' u i n :: m => match Nat.beq a a' && Nat.beq u 0, gB (A := A) r m with
  | true, some f => some fun x => (i, n, f x)
  | _, _ => none
 | .bH :: r, .bH :: m => gB (A := A) r m
 | .bB a b :: r, .bB a' b' :: m => match Nat.beq a a' && Nat.beq b b' with
  | true => gB (A := A) r m
  | false => none
 | .mp a :: r, .mp a' :: m => match Nat.beq a a' with
  | true => gB (A := A) r m
  | false => none
 | .any n :: r, l :: m => match Nat.beq n l.size with
  | true => gB (A := A) r m
  | false => none
 | _, _ => none
def Mj (agg : Bool) (v : V) : Option (List L) :=
 match agg, v with
 | true, .agg ls => some ls
 | false, .one l => some [l]
 | _, _ => none
def Ki {A : Type} (σr : List V) : (rs : List Slot) -> Option (A -> RTs rs A)
 | [] => some id
 | s :: r =>
  match Mj s.agg (σr.getD s.i .aO) with
  | some ls =>
   match gB (A := RTs r A) s.ls ls, Ki σr r with
   | some f, some g => some fun a => f (g a)
   | _, _ => none
  | none => none
def xY {A : Type} : (os : List OS) -> List Ob -> Option (A -> OTs os A)
 | [], [] => some id
 | .box e ls :: r, .box e' l :: m =>
  match Nat.beq e e', gB (A := OTs r A) ls l, xY (A := A) r m with
  | true, some f, some g => some fun a => f (g a)
  | _, _, _ => none
 | .row e t :: r, .arr e' t' ver rows wr :: m =>
  match Nat.beq e e' && (Nat.beq ver 0 && wr), xY (A := A) r m with
  | true, some g => if h : t' = t then some fun a => (h ▸ rows, g a) else none
  | _, _ => none
 | .fm tab :: r, .fm Pm :: m => if tab = Pm then xY (A := A) r m else none
 | _, _ => none
def Sh.dec (sh : Sh) (σ : St) : Option sh.X :=
 match Nat.beq σ.r.length sh.n, Ki (A := OTs sh.os Unit) σ.r sh.rs, xY (A := Unit) sh.os σ.h with
 | true, some f, some g => some (f (g ()))
 | _, _, _ => none
section
variable {β : Nat -> Pl} {w : World} {N : Nat -> Nat -> Prop} {A : Type}
def vO (β : Nat -> Pl) (w : World) (N : Nat -> Nat -> Prop) (r : List V) (tmps : Array Value) : Prop := ∀ (i : Nat) (v : V), r[i]? = some v -> v.Rel β w N (tmps.getD i undef)
theorem vO.set {r : List V} {tmps : Array Value} (h : vO β w N r tmps) {i : Nat} {v : V} (hv : v.Rel β w N (tmps.getD i undef)) : vO β w N (r.set i v) tmps := by
 intro j u hu
 by_cases hij : i = j
 ·subst hij
  rcases Nat.lt_or_ge i r.length with hi | hi
  ·rw [List.getElem?_set_self hi] at hu
   simp only [Option.some.injEq] at hu
   subst hu
   exact hv
  ·rw [List.getElem?_eq_none (by simpa using hi)] at hu; cases hu
 ·rw [List.getElem?_set_ne hij] at hu
  exact h j u hu
def jX (β : Nat -> Pl) (w : World) (N : Nat -> Nat -> Prop) : Nat -> List Ob -> List Ob -> Prop
 | _, [], [] => True
 | i, o :: r, o' :: r' => (o.Rel β w N (β i) -> o'.Rel β w N (β i)) ∧ (o'.wr = o.wr ∧ o'.dI = o.dI) ∧ jX β w N (i + 1) r r'
 | _, _, _ => False
theorem jX.length {w : World} : ∀ {i : Nat} {h h' : List Ob}, jX β w N i h h' -> h'.length = h.length
 | _, [], [], _ => rfl
 | _, _ :: _, _ :: _, h => by simp [jX.length h.2.2]
 | _, [], _ :: _, h => h.elim
 | _, _ :: _, [], h => h.elim
theorem jX.get {w : World} : ∀ {i : Nat} {h h' : List Ob}, jX β w N i h h' -> ∀ (j : Nat) (o' : Ob), h'[j]? = some o' -> ∃ o, h[j]? = some o ∧ (o'.wr = o.wr ∧ o'.dI = o.dI) ∧ (o.Rel β w N (β (i + j)) -> o'.Rel β w N (β (i + j)))
 | _, [], [], _, j, _, h => by simp at h
 | i, o :: r, o2 :: r2, h, j, o', hj => by
  cases j with
  | zero =>
   simp only [List.getElem?_cons_zero, Option.some.injEq] at hj
   subst hj
   exact ⟨o, rfl, h.2.1, h.1⟩
  | succ j =>
   obtain ⟨u, h1, h2, h3⟩ := jX.get h.2.2 j o' (by simpa using hj)
   rw [show i + 1 + j = i + (j + 1) by omega] at h3
   exact ⟨u, by simpa using h1, h2, h3⟩
 | _, [], _ :: _, h, _, _, _ => h.elim
 | _, _ :: _, [], h, _, _, _ => h.elim
end
end Go.Dec
namespace Go.Dec
inductive An (ρ : Type) where
 | nil
 | mk (l r : An ρ) (c : List Co)
 | loop (sh : Sh) (c0 c1 : List Co) (n : Nat) (a : An ρ)
 | scope (l : Nat) (a b : An ρ)
 | sem (f : mP ρ)
 | co (cs : List Co) (a : An ρ)
 | join (sh : Sh) (cs : List Co) (a : An ρ)
def An.l {ρ : Type} : An ρ -> An ρ
 | .mk l _ _ => l
 | .scope _ a _ => a
 | _ => .nil
def An.r {ρ : Type} : An ρ -> An ρ
 | .mk _ r _ => r
 | _ => .nil
def An.c {ρ : Type} : An ρ -> List Co
 | .mk _ _ c => c
 | _ => []
def fix {ρ α : Type} (B : (α -> Option ρ) -> α -> Option ρ) : Nat -> α -> Option ρ
 | 0, _ => none
 | n + 1, x => B (fix B n) x
def enter {ρ : Type} (T : Tab) (sh : Sh) (co : List Co) (σ : St) (g : sh.X -> Option ρ) : Option ρ :=
 norm T co σ fun σ1 => match sh.dec σ1 with
  | some x => g x
  | none => none
def An.plain {ρ : Type} : An ρ -> Bool
 | .nil => true
 | .mk l r _ => l.plain && r.plain
 | .loop _ _ _ _ a => a.plain
 | .scope _ a _ => a.plain
 | .sem _ => false
 | .co _ a => a.plain
 | .join _ _ a => a.plain
section ev
variable {ρ : Type} (Γ : Orc ρ) (T : Tab)
def gD (an : An ρ) (σ : St) (k : K ρ) (d : Option ρ) : Option ρ :=
 match an with
 | .sem f => f σ k
 | _ => d
def jn {ρ α : Type} (f : α -> Option ρ) (x : α) : Option ρ := f x
def evA (f : An ρ -> mP ρ) : An ρ -> mP ρ
 | .co cs a => fun σ k => norm T cs σ fun σ' => evA f a σ' k
 | .join sh cs a => fun σ k => evA f a σ fun e σ' => match e with
  | .normal => enter T sh cs σ' (jn fun x => k .normal (sh.enc x))
  | e => k e σ'
 | an => f an
def evG (J : Code -> Nat -> An ρ -> mP ρ) : Code -> An ρ -> St -> K ρ -> Option ρ
 | .skip, an, σ, k => gD an σ k (k .normal σ)
 | .region _ ops d, an, σ, k => gD an σ k (match d with
   | false => mQ Γ T ops ops.toList σ k
   | true => Lf Γ T ops σ k)
 | .seq a b, an, σ, k => gD an σ k (evA T (evG J a) an.l σ fun e σ' => match e with
   | .normal => norm T an.c σ' fun σ2 => evA T (evG J b) an.r σ2 k
   | e => k e σ')
 | .cond c a b, an, σ, k => gD an σ k (match ovl σ c with
   | .one (.val .bool t) => br t (evA T (evG J a) an.l σ k) (evA T (evG J b) an.r σ k)
   | _ => none)
 | .block id a, an, σ, k => gD an σ k (evA T (evG J a) an.l σ fun e σ' => match e with
   | .normal => norm T an.c σ' (k .normal)
   | .exit i => match Nat.beq i id with
    | true => norm T an.c σ' (k .normal)
    | false => k (.exit i) σ'
   | e => k e σ')
 | .scope a, an, σ, k => gD an σ k (evA T (evG J a) an.l σ fun e σ' => match e with
   | .goto l => match an with
    | .scope l0 _ b => match Nat.beq l l0 with
     | true => J a l0 b σ' fun e σ2 => match e with
      | .goto _ => none
      | e => k e σ2
     | false => none
    | _ => none
   | e => k e σ')
 | .loop b, an, σ, k => gD an σ k (match an with
   | .loop sh c0 c1 n a => enter T sh c0 σ fun x => fix (fun g x => evA T (evG J b) a (sh.enc x) fun e σ' => match e with
    | .normal => enter T sh c1 σ' g
    | e => k e σ') n x
   | _ => none)
 | .exit id, an, σ, k => gD an σ k (k (.exit id) σ)
 | .goto l, an, σ, k => gD an σ k (k (.goto l) σ)
 | .label _, an, σ, k => gD an σ k (k .normal σ)
 | .ret, an, σ, k => gD an σ k (k .ret σ)
 | _, an, σ, k => gD an σ k none
def ev0 (c : Code) (an : An ρ) : mP ρ := evA T (evG Γ T (fun _ _ _ _ _ => none) c) an
def Nt (a : Code) (l : Nat) (an : An ρ) : mP ρ := fun σ k =>
 match findLabel a l with
 | some rest =>
  match an.plain with
  | true => ev0 Γ T rest an σ k
  | false => none
 | none => none
def ev (c : Code) (an : An ρ) : mP ρ := evA T (evG Γ T (Nt Γ T) c) an
end ev
def Kj (P : Program) (kf : Nat) {ρ : Type} (c : Code) (f : mP ρ) : Prop := ∀ (σ : St) (k : K ρ) (r : ρ), f σ k = some r -> ∀ (C : Ctx) (β : Nat -> Pl) (a : Act) (w : World) (Q : Exit -> Act -> World -> Prop), C.P = P -> C.fix.length <= kf -> Sim C β σ a w ->
 (∀ e x σ' β' a' w', Sim C β' σ' a' w' -> bU β' w' (C.N β' σ'.h) e x -> k e σ' = some r -> Q x a' w') -> c.wp P Q a w
def nC {ρ : Type} (f : An ρ -> Prop) : An ρ -> Prop
 | .co _ a => nC f a
 | .join _ _ a => nC f a
 | an => f an
def AnG (P : Program) (kf : Nat) {ρ : Type} : Code -> An ρ -> Prop
 | c, .sem f => Kj P kf c f
 | .seq a b, an => nC (AnG P kf a) an.l ∧ nC (AnG P kf b) an.r
 | .cond _ a b, an => nC (AnG P kf a) an.l ∧ nC (AnG P kf b) an.r
 | .block _ a, an => nC (AnG P kf a) an.l
 | .scope a, an => nC (AnG P kf a) an.l
 | .loop b, .loop _ _ _ _ a => nC (AnG P kf b) a
 | _, _ => True
section sound
variable {ρ : Type} {Γ : Orc ρ} {T : Tab} {P : Program}
theorem AnG.sem {kf : Nat} {c : Code} {f : mP ρ} (h : AnG P kf c (.sem f)) : Kj P kf c f := by
 cases c <;> exact h
end sound
end Go.Dec
