/- Part of a proof over this seat: a library of my own, and what it says of this seat. No statement is proved here. -/
import Derived.Test.YtclpnkdjjhclnaaGreatDoorPartAI
namespace Go.Dec
inductive Co where
 | keep (mask : List Bool)
 | trunc (n : Nat)
 | Ov (i : Nat) (t : TypeId)
 | ownB (id : Nat) (j : Nat) (t : TypeId)
 | Ow (i : Nat) (t : Ty)
 | Ox (id : Nat) (j : Nat) (t : Ty)
 | ver (id : Nat)
 | slR (i : Nat)
 | Oy (i : Nat)
 | Oz (id : Nat) (j : Nat)
 | Pf (i : Nat) (j : Nat) (t : TypeId)
 | Pg (i : Nat) (j : Nat)
 | gc (ρ : List Nat)
 | gcA (k : Nat)
 | orn (id : Nat) (j : Nat) (to off : Nat)
def xX : List Bool -> List V -> List V
 | true :: m, v :: r => v :: xX m r
 | false :: m, _ :: r => .aO :: xX m r
 | [], _ :: r => .aO :: xX [] r
 | _, [] => []
mutual
def L.isB (n : Nat) : L -> Bool
 | .ptr id _ => Nat.blt id n
 | .bB id _ => Nat.blt id n
 | .bY id _ _ _ _ => Nat.blt id n
 | .bE id _ _ _ => Nat.blt id n
 | .sl id _ _ _ => Nat.blt id n
 | .own id _ => Nat.blt id n
 | .mp id => Nat.blt id n
 | .clo _ caps => L.mX n caps
 | _ => true
def L.mX (n : Nat) : List L -> Bool
 | [] => true
 | l :: ls => L.isB n l && L.mX n ls
end
def iC (n : Nat) : List (Sum L (List L)) -> Bool
 | [] => true
 | .inl l :: r => l.isB n && iC n r
 | .inr ls :: r => L.mX n ls && iC n r
def V.isB (n : Nat) : V -> Bool
 | .one l => l.isB n
 | .agg ls => L.mX n ls
 | .tup vs => iC n vs
 | .aO => true
def Ob.isB (n : Nat) : Ob -> Bool
 | .box _ ls => L.mX n ls
 | .arr .. => true
 | .fm _ => true
mutual
def L.dS (id v : Nat) : L -> Bool
 | .bE i u _ _ => !Nat.beq i id || Nat.beq u v
 | .sl i u _ _ => !Nat.beq i id || Nat.beq u v
 | .own i u => !Nat.beq i id || Nat.beq u v
 | .clo _ caps => L.gQ id v caps
 | _ => true
def L.gQ (id v : Nat) : List L -> Bool
 | [] => true
 | l :: ls => L.dS id v l && L.gQ id v ls
end
mutual
def L.aK (id : Nat) : L -> L
 | .bE i u a b => if Nat.beq i id then .bE i 0 a b else .bE i u a b
 | .sl i u a b => if Nat.beq i id then .sl i 0 a b else .sl i u a b
 | .own i u => if Nat.beq i id then .own i 0 else .own i u
 | .clo f caps => .clo f (L.fT id caps)
 | l => l
def L.fT (id : Nat) : List L -> List L
 | [] => []
 | l :: ls => L.aK id l :: L.fT id ls
end
def lQ (id v : Nat) : List (Sum L (List L)) -> Bool
 | [] => true
 | .inl l :: r => l.dS id v && lQ id v r
 | .inr ls :: r => L.gQ id v ls && lQ id v r
def V.dS (id v : Nat) : V -> Bool
 | .one l => l.dS id v
 | .agg ls => L.gQ id v ls
 | .tup vs => lQ id v vs
 | .aO => true
def mY (id : Nat) : List (Sum L (List L)) -> List (Sum L (List L))
 | [] => []
 | .inl l :: r => .inl (l.aK id) :: mY id r
 | .inr ls :: r => .inr (L.fT id ls) :: mY id r
def V.aK (id : Nat) : V -> V
 | .one l => .one (l.aK id)
 | .agg ls => .agg (L.fT id ls)
 | .tup vs => .tup (mY id vs)
 | .aO => .aO
def Ob.dS (id v : Nat) : Ob -> Bool
 | .box _ ls => L.gQ id v ls
 | .arr .. => true
 | .fm _ => true
def Ob.aK (id : Nat) : Ob -> Ob
 | .box e ls => .box e (L.fT id ls)
 | o => o
def eD (ls : List L) (j : Nat) (l : L) : Option (List L) :=
 match ls[j]? with
 | some .bH => some (ls.set j l)
 | _ => none
def Ph (to off : Nat) : L -> Option L
 | .eH => some (.bB to off)
 | .ptr a b => match Nat.beq a to && Nat.beq b off with
  | true => some (.bB to off)
  | false => none
 | .bB a b => match Nat.beq a to && Nat.beq b off with
  | true => some (.bB to off)
  | false => none
 | _ => none
def Ke : Nat -> Nat -> List Nat -> Bool
 | _, 0, _ => true
 | i, k + 1, a :: r => Nat.beq a i && Ke (i + 1) k r
 | _, _ + 1, [] => false
def frz (h : List Ob) (l : L) : Option (Bool × L × List Ob) :=
 match l with
 | .own id ver =>
  match h[id]? with
  | some (.arr e t v rows _) => some (Nat.beq v ver, .val (.slice t) rows, h.set id (.arr e t v rows false))
  | _ => none
 | .sl id ver off len =>
  match h[id]? with
  | some (.arr e t v rows _) => some (Nat.beq v ver && Nat.ble (off + len) rows.length, .val (.slice t) ((rows.drop off).take len), h.set id (.arr e t v rows false))
  | _ => none
 | _ => none
def gcL (ρ : List Nat) (σ : St) : Option (Bool × St) :=
 if nodupB ρ && bI (fun i => Nat.blt i σ.h.length) ρ then some (true, ⟨σ.r.map (V.ren ρ σ.h), inH ρ σ.h⟩) else none
def upto : Nat -> Nat -> List Nat
 | _, 0 => []
 | i, k + 1 => i :: upto (i + 1) k
def gcR (k : Nat) (σ : St) : List Nat := qK σ.h (σ.h.length + 1) (oW (upto 0 k) (Ie σ.r)) 0
def co1 (T : Tab) (c : Co) (σ : St) : Option (Bool × St) :=
 match c with
 | .gcA k => match Ke 0 k (gcR k σ) with
  | true => gcL (gcR k σ) σ
  | false => none
 | .slR i =>
  match σ.r[i]? with
  | some (.one (.own id ver)) =>
   match σ.h[id]? with
   | some (.arr _ _ v rows _) => some (Nat.beq v ver, ⟨σ.r.set i (.one (.sl id ver 0 rows.length)), σ.h⟩)
   | _ => none
  | some (.one (.sl ..)) => some (true, σ)
  | _ => none
 | .Pf i j t =>
  match σ.r[i]?, elemTy T t with
  | some (.agg ls), some (e, te, _) =>
   match ls[j]? with
   | some (.own ..) => some (true, σ)
   | _ =>
    match eD ls j (.own σ.h.length 0) with
    | some ls' => some (true, ⟨σ.r.set i (.agg ls'), σ.h ++ [.arr e te 0 [] true]⟩)
    | none => none
  | _, _ => none
 | .Pg i j =>
  match σ.r[i]? with
  | some (.agg ls) =>
   match ls[j]? with
   | some l =>
    match l.isD with
    | true => some (true, σ)
    | false =>
     match frz σ.h l with
     | some (c, l', h') => some (c, ⟨σ.r.set i (.agg (ls.set j l')), h'⟩)
     | none => none
   | none => none
  | _ => none
 | .gc ρ => gcL ρ σ
 | .orn id j to off =>
  match σ.h[id]? with
  | some (.box eb ls) =>
   match ls[j]? with
   | some l =>
    match Ph to off l with
    | some l' => some (true, ⟨σ.r, σ.h.set id (.box eb (ls.set j l'))⟩)
    | none => none
   | none => none
  | _ => none
 | .Oy i =>
  match σ.r[i]? with
  | some (.one l) =>
   match l.isD with
   | true => some (true, σ)
   | false =>
    match frz σ.h l with
    | some (c, l', h') => some (c, ⟨σ.r.set i (.one l'), h'⟩)
    | none => none
  | _ => none
 | .Oz id j =>
  match σ.h[id]? with
  | some (.box eb ls) =>
   match ls[j]? with
   | some l =>
    match l.isD with
    | true => some (true, σ)
    | false =>
     match frz σ.h l with
     | some (c, l', h') => some (c, ⟨σ.r, h'.set id (.box eb (ls.set j l'))⟩)
     | none => none
   | none => none
  | _ => none
 | .keep m => some (true, ⟨xX m σ.r, σ.h⟩)
 | .trunc n => if Nat.ble n σ.h.length && (bI (V.isB n) σ.r && bI (Ob.isB n) (σ.h.take n)) then some (true, ⟨σ.r, σ.h.take n⟩) else none
 | .Ov i t =>
  match σ.r[i]?, elemTy T t with
  | some (.one .bH), some (e, te, _) => some (true, ⟨σ.r.set i (.one (.own σ.h.length 0)), σ.h ++ [.arr e te 0 [] true]⟩)
  | some (.one (.own ..)), _ => some (true, σ)
  | _, _ => none
 | .ownB id j t =>
  match σ.h[id]?, elemTy T t with
  | some (.box eb ls), some (e, te, _) =>
   match ls[j]? with
   | some (.own ..) => some (true, σ)
   | _ =>
    match eD ls j (.own σ.h.length 0) with
    | some ls' => some (true, ⟨σ.r, (σ.h ++ [Ob.arr e te 0 [] true]).set id (.box eb ls')⟩)
    | none => none
  | _, _ => none
 | .Ow i t =>
  match σ.r[i]? with
  | some (.one .bH) => some (true, ⟨σ.r.set i (.one (.val (.slice t) [])), σ.h⟩)
  | _ => none
 | .Ox id j t =>
  match σ.h[id]? with
  | some (.box eb ls) =>
   match eD ls j (.val (.slice t) []) with
   | some ls' => some (true, ⟨σ.r, σ.h.set id (.box eb ls')⟩)
   | none => none
  | _ => none
 | .ver id =>
  match σ.h[id]? with
  | some (.arr e t v rows wr) => if bI (V.dS id v) σ.r && bI (Ob.dS id v) σ.h then some (true, ⟨σ.r.map (V.aK id), (σ.h.map (Ob.aK id)).set id (.arr e t 0 rows wr)⟩) else none
  | _ => none
def norm {ρ : Type} (T : Tab) : List Co -> St -> (St -> Option ρ) -> Option ρ
 | [], σ, k => k σ
 | c :: cs, σ, k =>
  match co1 T c σ with
  | some (b, σ') => chk b (norm T cs σ' k)
  | none => none
section
variable {T : Tab} {C : Ctx} {β : Nat -> Pl} {w : World}
theorem jW {α : Type} {f : α -> Bool} : ∀ {l : List α}, bI f l = true -> ∀ (i : Nat) (x : α), l[i]? = some x -> f x = true
 | y :: r, h, 0, x, hx => by
  simp only [bI, Bool.and_eq_true] at h
  simp only [List.getElem?_cons_zero, Option.some.injEq] at hx
  subst hx
  exact h.1
 | y :: r, h, i + 1, x, hx => by
  simp only [bI, Bool.and_eq_true] at h
  exact jW h.2 i x (by simpa using hx)
 | [], _, i, x, hx => by simp at hx
mutual
theorem L.Rel.below {β' : Nat -> Pl} {N N' : Nat -> Nat -> Prop} {n : Nat} (hβ : ∀ id, id < n -> β' id = β id) (hN : ∀ b j, b < w.heap.size -> N' b j -> N b j) : ∀ {l : L} {cs : List Value}, l.isB n = true -> l.Rel β w N cs -> l.Rel β' w N' cs
 | .val t x, cs, _, h => by simp only [L.Rel] at *; exact Ty.Rel.mono (Keep.refl _ w) hN h
 | .ptr id off, cs, hb, h => by simp only [L.isB] at hb; simp only [L.Rel] at *; rw [hβ id (Nat.le_of_ble_eq_true hb)]; exact h
 | .bY id off es i sub, cs, hb, h => by simp only [L.isB] at hb; simp only [L.Rel] at *; rw [hβ id (Nat.le_of_ble_eq_true hb)]; exact h
 | .eH, cs, _, h => by simp only [L.Rel] at *; exact h
 | .bB id off, cs, hb, h => by simp only [L.isB] at hb; simp only [L.Rel] at *; rw [hβ id (Nat.le_of_ble_eq_true hb)]; exact h
 | .bE id ver i off, cs, hb, h => by simp only [L.isB] at hb; simp only [L.Rel] at *; rw [hβ id (Nat.le_of_ble_eq_true hb)]; exact h
 | .cK t x off, cs, _, h => by simp only [L.Rel] at *; obtain ⟨c, hc, hr⟩ := h; exact ⟨c, hc, hr.mono (Keep.refl _ w) hN⟩
 | .sl id ver off len, cs, hb, h => by simp only [L.isB] at hb; simp only [L.Rel] at *; rw [hβ id (Nat.le_of_ble_eq_true hb)]; exact h
 | .own id ver, cs, hb, h => by simp only [L.isB] at hb; simp only [L.Rel] at *; rw [hβ id (Nat.le_of_ble_eq_true hb)]; exact h
 | .bH, cs, _, h => by simp only [L.Rel] at *; exact h
 | .clo f caps, cs, hb, h => by
  simp only [L.isB] at hb
  simp only [L.Rel] at *
  obtain ⟨us, hc, hr⟩ := h
  exact ⟨us, hc, L.aM.below hβ hN hb hr⟩
 | .bad n, cs, _, h => by simp only [L.Rel] at *; exact h
 | .iY x tab, cs, _, h => by simp only [L.Rel] at *; exact h
 | .mp id, cs, hb, h => by simp only [L.isB] at hb; simp only [L.Rel] at *; rw [hβ id (Nat.le_of_ble_eq_true hb)]; exact h
theorem L.aM.below {β' : Nat -> Pl} {N N' : Nat -> Nat -> Prop} {n : Nat} (hβ : ∀ id, id < n -> β' id = β id) (hN : ∀ b j, b < w.heap.size -> N' b j -> N b j) : ∀ {ls : List L} {us : List Value}, L.mX n ls = true -> L.aM β w N ls us -> L.aM β' w N' ls us
 | [], us, _, h => by simp only [L.aM] at *; exact h
 | l :: ls, us, hb, h => by
  simp only [L.mX, Bool.and_eq_true] at hb
  simp only [L.aM] at *
  obtain ⟨u, r, e, h1, h2⟩ := h
  exact ⟨u, r, e, L.Rel.below hβ hN hb.1 h1, L.aM.below hβ hN hb.2 h2⟩
end
theorem aI.below {β' : Nat -> Pl} {N N' : Nat -> Nat -> Prop} {n : Nat} (hβ : ∀ id, id < n -> β' id = β id) (hN : ∀ b j, b < w.heap.size -> N' b j -> N b j) : ∀ {ls : List L} {cs : List Value}, L.mX n ls = true -> aI β w N ls cs -> aI β' w N' ls cs
 | [], _, _, h => h
 | l :: ls, _, hb, ⟨c1, c2, e, h1, h2⟩ => by
  simp only [L.mX, Bool.and_eq_true] at hb
  exact ⟨c1, c2, e, h1.below hβ hN hb.1, aI.below hβ hN hb.2 h2⟩
theorem pE {β' : Nat -> Pl} {N N' : Nat -> Nat -> Prop} {n : Nat} (hβ : ∀ id, id < n -> β' id = β id) (hN : ∀ b j, b < w.heap.size -> N' b j -> N b j) : ∀ {vs : List (Sum L (List L))} {us : List Value}, iC n vs = true -> aN (gP β w N) vs us -> aN (gP β' w N') vs us
 | [], [], _, _ => trivial
 | .inl l :: vs, u :: us, hb, h => by
  simp only [iC, Bool.and_eq_true] at hb
  exact ⟨L.Rel.below hβ hN hb.1 h.1, pE hβ hN hb.2 h.2⟩
 | .inr ls :: vs, u :: us, hb, h => by
  simp only [iC, Bool.and_eq_true] at hb
  obtain ⟨⟨cs, e, hr⟩, h2⟩ := h
  exact ⟨⟨cs, e, hr.below hβ hN hb.1⟩, pE hβ hN hb.2 h2⟩
 | [], _ :: _, _, h => h.elim
 | .inl _ :: _, [], _, h => h.elim
 | .inr _ :: _, [], _, h => h.elim
theorem V.Rel.below {β' : Nat -> Pl} {N N' : Nat -> Nat -> Prop} {n : Nat} (hβ : ∀ id, id < n -> β' id = β id) (hN : ∀ b j, b < w.heap.size -> N' b j -> N b j) {v : V} {x : Value} (hb : v.isB n = true) (h : v.Rel β w N x) : v.Rel β' w N' x := by
 cases v with
 | one l => exact L.Rel.below hβ hN hb h
 | agg ls => obtain ⟨cs, e, hr⟩ := h; exact ⟨cs, e, hr.below hβ hN hb⟩
 | tup vs => obtain ⟨us, e, hr⟩ := h; exact ⟨us, e, pE hβ hN hb hr⟩
 | aO => trivial
theorem Sim.trunc {σ : St} {a : Act} {n : Nat} (hs : Sim C β σ a w) (hfx : C.fix.length <= n) (hn : n <= σ.h.length) (hr : bI (V.isB n) σ.r = true) (ho : bI (Ob.isB n) (σ.h.take n) = true) : ∃ β', Sim C β' ⟨σ.r, σ.h.take n⟩ a w := by
 let β' : Nat -> Pl := fun id => if id < n then β id else ⟨false, false, 0, none, 0, 0, 0, []⟩
 have hβ : ∀ id, id < n -> β' id = β id := fun id hid => by simp [β', hid]
 have hget : ∀ (id : Nat) (o : Ob), (σ.h.take n)[id]? = some o -> id < n ∧ σ.h[id]? = some o := fun id o h => by
  rw [List.getElem?_take] at h
  split at h
  ·rename_i hlt; exact ⟨hlt, h⟩
  ·cases h
 have hN : ∀ b j, b < w.heap.size -> C.N β' (σ.h.take n) b j -> C.N β σ.h b j := fun b j _ hb => by
  rcases hb with hb | ⟨id, o, ho, hw, hbk⟩
  ·exact .inl hb
  ·obtain ⟨hid, ho⟩ := hget id o ho
   rw [hβ id hid] at hbk
   exact .inr ⟨id, o, ho, hw, hbk⟩
 refine ⟨β', ⟨⟨?_, ?_, ?_, ?_, hs.heap.n0, hs.heap.frame, hs.heap.size, hs.heap.os, hs.heap.tape, hs.heap.output, fun j o hj => by
  obtain ⟨k1, k2⟩ := hs.heap.fixed j o hj
  have hjn : j < n := Nat.lt_of_lt_of_le (List.getElem?_eq_some_iff.1 hj).1 hfx
  exact ⟨by simp; omega, fun b hb => by rw [hβ j hjn]; exact k2 b hb⟩⟩, hs.defers, hs.size, fun i v hv => (hs.reg i v hv).below hβ hN (jW hr i v hv)⟩⟩
 ·intro id o hio
  obtain ⟨hid, h1⟩ := hget id o hio
  rw [hβ id hid]
  have hob := hs.heap.obj id o h1
  cases o with
  | box e ls =>
   have hbl := jW ho id _ hio
   simp only [Ob.Rel] at *
   obtain ⟨g1, g2, b, cs, g3, g4, g5⟩ := hob
   exact ⟨g1, g2, b, cs, g3, g4.below hβ hN hbl, g5⟩
  | arr e t ver rows wr =>
   simp only [Ob.Rel] at *
   obtain ⟨g1, g2, g3, g4, g5, g6, g7⟩ := hob
   refine ⟨g1, g2, g3, g4, g5, g6, ?_⟩
   rcases g7 with g7 | ⟨b, cur, css, k1, k2, k3, k4⟩
   ·exact .inl g7
   ·exact .inr ⟨b, cur, css, k1, k2, k3.mono fun _ _ h => h.mono (Keep.refl _ w) hN, k4⟩
  | fm tab => simp only [Ob.Rel] at *; exact hob
 ·intro id hid
  simp only [List.length_take] at hid
  simp only [β']
  rw [if_neg (by omega)]
 ·intro i j o1 o2 b h1 h2 hb1 hb2
  obtain ⟨hi, h1⟩ := hget i o1 h1
  obtain ⟨hj, h2⟩ := hget j o2 h2
  rw [hβ i hi] at hb1
  rw [hβ j hj] at hb2
  exact hs.heap.gX i j o1 o2 b h1 h2 hb1 hb2
 ·intro id o b h1 hb
  obtain ⟨hi, h1⟩ := hget id o h1
  exact hs.heap.kI h1 rfl (by rw [hβ id hi]) (by rw [hβ id hi]) (fun h => h) hb
section ver
variable {id v : Nat}
def bJ (β : Nat -> Pl) (id : Nat) : Nat -> Pl := upd β id { β id with ver := 0 }
theorem vN {i j : Nat} (h : i ≠ j) : Nat.beq i j = false := by
 cases hb : Nat.beq i j
 ·rfl
 ·exact absurd (Nat.eq_of_beq_eq_true hb) h
mutual
theorem L.Rel.aK {N : Nat -> Nat -> Prop} (hv : (β id).ver = v) : ∀ {l : L} {cs : List Value}, l.dS id v = true -> l.Rel β w N cs -> (l.aK id).Rel (bJ β id) w N cs
 | .val t x, cs, _, h => by simp only [L.aK, L.Rel] at *; exact h
 | .iY x tab, cs, _, h => by simp only [L.aK, L.Rel] at *; exact h
 | .mp i, cs, _, h => by
  simp only [L.aK, L.Rel, bJ] at *
  by_cases hi : i = id
  ·subst hi; rw [upd_same]; exact h
  ·rw [aB _ _ hi]; exact h
 | .ptr i off, cs, _, h => by
  simp only [L.aK, L.Rel, bJ] at *
  by_cases hi : i = id
  ·subst hi; rw [upd_same]; exact h
  ·rw [aB _ _ hi]; exact h
 | .bY i off es k sub, cs, _, h => by
  simp only [L.aK, L.Rel, bJ] at *
  by_cases hi : i = id
  ·subst hi; rw [upd_same]; exact h
  ·rw [aB _ _ hi]; exact h
 | .eH, cs, _, h => by simp only [L.aK, L.Rel] at *; exact h
 | .bB i off, cs, _, h => by
  simp only [L.aK, L.Rel, bJ] at *
  by_cases hi : i = id
  ·subst hi; rw [upd_same]; exact h
  ·rw [aB _ _ hi]; exact h
 | .bE i u a b, cs, hb, h => by
  simp only [L.aK]
  by_cases hi : i = id
  ·subst hi
   have hu : u = v := by simpa [L.dS, Nat.beq_refl] using hb
   subst hu
   simp only [Nat.beq_refl, if_true, L.Rel, bJ, upd_same] at *
   obtain ⟨h1, h2, h3, c, h4, h5, h6⟩ := h
   exact ⟨h1, h2, Nat.le_refl _, c, h4, h5, fun _ => h6 hv⟩
  ·have : Nat.beq i id = false := vN hi
   simp only [this, Bool.false_eq_true, if_false, L.Rel, bJ] at *
   rw [aB _ _ hi]; exact h
 | .cK t x off, cs, _, h => by simp only [L.aK, L.Rel] at *; exact h
 | .sl i u a b, cs, hb, h => by
  simp only [L.aK]
  by_cases hi : i = id
  ·subst hi
   have hu : u = v := by simpa [L.dS, Nat.beq_refl] using hb
   subst hu
   simp only [Nat.beq_refl, if_true, L.Rel, bJ, upd_same] at *
   obtain ⟨h1, h2, h3, c, h4, h5, h6⟩ := h
   exact ⟨h1, h2, Nat.le_refl _, c, h4, h5, fun _ => h6 hv⟩
  ·have : Nat.beq i id = false := vN hi
   simp only [this, Bool.false_eq_true, if_false, L.Rel, bJ] at *
   rw [aB _ _ hi]; exact h
 | .own i u, cs, hb, h => by
  simp only [L.aK]
  by_cases hi : i = id
  ·subst hi
   have hu : u = v := by simpa [L.dS, Nat.beq_refl] using hb
   subst hu
   simp only [Nat.beq_refl, if_true, L.Rel, bJ, upd_same] at *
   obtain ⟨h1, h2, h3, c, h4, h5, h6⟩ := h
   exact ⟨h1, h2, Nat.le_refl _, c, h4, h5, fun _ => h6 hv⟩
  ·have : Nat.beq i id = false := vN hi
   simp only [this, Bool.false_eq_true, if_false, L.Rel, bJ] at *
   rw [aB _ _ hi]; exact h
 | .bH, cs, _, h => by simp only [L.aK, L.Rel] at *; exact h
 | .clo f caps, cs, hb, h => by
  simp only [L.dS] at hb
  simp only [L.aK, L.Rel] at *
  obtain ⟨us, hc, hr⟩ := h
  exact ⟨us, hc, L.aM.aK hv hb hr⟩
 | .bad n, cs, _, h => by simp only [L.aK, L.Rel] at *; exact h
theorem L.aM.aK {N : Nat -> Nat -> Prop} (hv : (β id).ver = v) : ∀ {ls : List L} {us : List Value}, L.gQ id v ls = true -> L.aM β w N ls us -> L.aM (bJ β id) w N (L.fT id ls) us
 | [], us, _, h => by simp only [L.fT, L.aM] at *; exact h
 | l :: ls, us, hb, h => by
  simp only [L.gQ, Bool.and_eq_true] at hb
  simp only [L.fT, L.aM] at *
  obtain ⟨u, r, e, h1, h2⟩ := h
  exact ⟨u, r, e, L.Rel.aK hv hb.1 h1, L.aM.aK hv hb.2 h2⟩
end
theorem aI.aK {N : Nat -> Nat -> Prop} (hv : (β id).ver = v) : ∀ {ls : List L} {cs : List Value}, L.gQ id v ls = true -> aI β w N ls cs -> aI (bJ β id) w N (L.fT id ls) cs
 | [], _, _, h => by simp only [L.fT, aI] at *; exact h
 | l :: ls, _, hb, ⟨c1, c2, e, h1, h2⟩ => by
  simp only [L.gQ, Bool.and_eq_true] at hb
  exact ⟨c1, c2, e, h1.aK hv hb.1, aI.aK hv hb.2 h2⟩
theorem pF {N : Nat -> Nat -> Prop} (hv : (β id).ver = v) : ∀ {vs : List (Sum L (List L))} {us : List Value}, lQ id v vs = true -> aN (gP β w N) vs us -> aN (gP (bJ β id) w N) (mY id vs) us
 | [], [], _, _ => trivial
 | .inl l :: vs, u :: us, hb, h => by
  simp only [lQ, Bool.and_eq_true] at hb
  exact ⟨L.Rel.aK hv hb.1 h.1, pF hv hb.2 h.2⟩
 | .inr ls :: vs, u :: us, hb, h => by
  simp only [lQ, Bool.and_eq_true] at hb
  obtain ⟨⟨cs, e, hr⟩, h2⟩ := h
  exact ⟨⟨cs, e, hr.aK hv hb.1⟩, pF hv hb.2 h2⟩
 | [], _ :: _, _, h => h.elim
 | .inl _ :: _, [], _, h => h.elim
 | .inr _ :: _, [], _, h => h.elim
theorem V.Rel.aK {N : Nat -> Nat -> Prop} (hv : (β id).ver = v) {u : V} {x : Value} (hb : u.dS id v = true) (h : u.Rel β w N x) : (u.aK id).Rel (bJ β id) w N x := by
 cases u with
 | one l => exact L.Rel.aK hv hb h
 | agg ls => obtain ⟨cs, e, hr⟩ := h; exact ⟨cs, e, hr.aK hv hb⟩
 | tup vs => obtain ⟨us, e, hr⟩ := h; exact ⟨us, e, pF hv hb hr⟩
 | aO => trivial
theorem Ii (i : Nat) : (bJ β id i).box = (β i).box := by
 unfold bJ
 by_cases hi : i = id
 ·subst hi; rw [upd_same]
 ·rw [aB _ _ hi]
theorem iD (i : Nat) : (bJ β id i).blk = (β i).blk ∧ (bJ β id i).live = (β i).live := by
 unfold bJ upd
 split
 ·rename_i h; subst h; exact ⟨rfl, rfl⟩
 ·exact ⟨rfl, rfl⟩
theorem Ob.Ij (o : Ob) : (o.aK id).wr = o.wr := by cases o <;> rfl
theorem Ob.Dp (o : Ob) : (o.aK id).dI = o.dI := by cases o <;> rfl
theorem mZ (i : Nat) : (bJ β id i).sub = (β i).sub := by
 unfold bJ upd
 split
 ·rename_i h; subst h; rfl
 ·rfl
theorem Sim.aK {σ : St} {a : Act} {e : TypeId} {t : Ty} {rows : List t.den} {wr : Bool} (hs : Sim C β σ a w) (ho : σ.h[id]? = some (.arr e t v rows wr)) (hr : bI (V.dS id v) σ.r = true) (hh : bI (Ob.dS id v) σ.h = true) :
  Sim C (bJ β id) ⟨σ.r.map (V.aK id), (σ.h.map (Ob.aK id)).set id (.arr e t 0 rows wr)⟩ a w := by
 have hob := hs.heap.obj _ _ ho
 simp only [Ob.Rel] at hob
 obtain ⟨g1, g2, g3, g4, g5, g6, g7⟩ := hob
 have Pj : id < (σ.h.map (Ob.aK id)).length := by simpa using (List.getElem?_eq_some_iff.1 ho).1
 have hget : ∀ (i : Nat) (o : Ob), ((σ.h.map (Ob.aK id)).set id (.arr e t 0 rows wr))[i]? = some o -> ∃ o', σ.h[i]? = some o' ∧ (o.wr = o'.wr ∧ o.dI = o'.dI) ∧ ((i ≠ id ∧ o = o'.aK id) ∨ (i = id ∧ o = .arr e t 0 rows wr)) := fun i o h => by
  by_cases hi : id = i
  ·subst hi
   rw [List.getElem?_set_self Pj] at h
   simp only [Option.some.injEq] at h
   subst h
   exact ⟨_, ho, ⟨rfl, rfl⟩, .inr ⟨rfl, rfl⟩⟩
  ·rw [List.getElem?_set_ne hi, List.getElem?_map, Option.map_eq_some_iff] at h
   obtain ⟨o', h1, rfl⟩ := h
   exact ⟨o', h1, ⟨Ob.Ij o', Ob.Dp o'⟩, .inl ⟨fun h => hi h.symm, rfl⟩⟩
 have hNi : ∀ b j, C.N (bJ β id) ((σ.h.map (Ob.aK id)).set id (.arr e t 0 rows wr)) b j -> C.N β σ.h b j := fun b j hb => by
  rcases hb with hb | ⟨i, o, h1, h2, h3⟩
  ·exact .inl hb
  ·obtain ⟨o', h4, h5, _⟩ := hget i o h1
   exact .inr ⟨i, o', h4, by rw [<- h5.1]; exact h2, Ob.qJ h5.2 (iD (β := β) (id := id) i).1 (mZ i) h3⟩
 have mono : ∀ {l : List L} {cs : List Value}, aI (bJ β id) w (C.N β σ.h) l cs -> aI (bJ β id) w (C.N (bJ β id) ((σ.h.map (Ob.aK id)).set id (.arr e t 0 rows wr))) l cs := fun h => h.mono (Moves.refl _) (Keep.refl _ w) fun b j _ hb => hNi b j hb
 refine ⟨⟨?_, ?_, ?_, ?_, hs.heap.n0, hs.heap.frame, hs.heap.size, hs.heap.os, hs.heap.tape, hs.heap.output, fun j o hj => by
  obtain ⟨k1, k2⟩ := hs.heap.fixed j o hj
  exact ⟨by simpa using k1, fun b hb => by rw [(iD (β := β) (id := id) j).1, (Ii (β := β) (id := id) j)]; exact k2 b hb⟩⟩, hs.defers, by simpa using hs.size, ?_⟩
 ·intro i o h
  obtain ⟨o', h1, h2, h3 | h3⟩ := hget i o h
  ·obtain ⟨hi, rfl⟩ := h3
   have hob := hs.heap.obj i o' h1
   have hbi : bJ β id i = β i := aB _ _ hi
   rw [hbi]
   cases o' with
   | box eb ls =>
    have hvv := jW hh i _ h1
    simp only [Ob.aK, Ob.Rel] at *
    obtain ⟨k1, k2, b, cs, k3, k4, k5⟩ := hob
    exact ⟨k1, k2, b, cs, k3, mono (k4.aK g3 hvv), k5⟩
   | arr e2 t2 Qg Qd wr2 =>
    simp only [Ob.aK, Ob.Rel] at *
    obtain ⟨k1, k2, k3, k4, k5, k6, k7⟩ := hob
    refine ⟨k1, k2, k3, k4, k5, k6, ?_⟩
    rcases k7 with k7 | ⟨b, cur, css, m1, m2, m3, m4⟩
    ·exact .inl k7
    ·exact .inr ⟨b, cur, css, m1, m2, m3.mono fun _ _ h => h.mono (Keep.refl _ w) fun b j _ hb => hNi b j hb, m4⟩
   | fm tab => simp only [Ob.aK, Ob.Rel] at *; exact hob
  ·obtain ⟨rfl, rfl⟩ := h3
   simp only [Ob.Rel, bJ, upd_same]
   refine ⟨g1, g2, trivial, g4, g5, g6, ?_⟩
   rcases g7 with g7 | ⟨b, cur, css, m1, m2, m3, m4⟩
   ·exact .inl g7
   ·exact .inr ⟨b, cur, css, m1, m2, m3.mono fun _ _ h => h.mono (Keep.refl _ w) fun b j _ hb => hNi b j hb, m4⟩
 ·intro i hi
  rw [(iD (β := β) (id := id) i).2]
  exact hs.heap.dead i (by simpa using hi)
 ·intro i j o1 o2 b h1 h2 hb1 hb2
  obtain ⟨o1', k1, k3, _⟩ := hget i o1 h1
  obtain ⟨o2', k2, k4, _⟩ := hget j o2 h2
  exact hs.heap.gX i j o1' o2' b k1 k2 (Ob.eO k3.2 (iD (β := β) (id := id) i).1 (mZ i) hb1) (Ob.eO k4.2 (iD (β := β) (id := id) j).1 (mZ j) hb2)
 ·intro i o b h1 hb
  obtain ⟨o', k1, k3, _⟩ := hget i o h1
  exact hs.heap.kI k1 k3.2 (iD (β := β) (id := id) i).1 (mZ i) (fun h => by rw [<- k3.1]; exact h) hb
 ·intro i u hu
  rw [List.getElem?_map, Option.map_eq_some_iff] at hu
  obtain ⟨u0, h1, rfl⟩ := hu
  exact ((hs.reg i u0 h1).aK g3 (jW hr i u0 h1)).mono (Moves.refl _) (Keep.refl _ w) fun b j _ hb => hNi b j hb
end ver
theorem aI.eD {N : Nat -> Nat -> Prop} {l : L} (hl : l.Rel β w N [.slice none 0 0]) : ∀ {ls ls' : List L} {j : Nat} {cs : List Value}, Dec.eD ls j l = some ls' -> aI β w N ls cs -> aI β w N ls' cs
 | [], _, j, _, h, _ => by simp [Dec.eD] at h
 | x :: ls, ls', 0, cs, h, hr => by
  simp only [Dec.eD, List.getElem?_cons_zero] at h
  split at h
  ·rename_i hx
   simp only [Option.some.injEq] at h hx
   subst h hx
   obtain ⟨c1, c2, e, h1, h2⟩ := hr
   simp only [L.Rel] at h1
   subst h1
   exact ⟨_, c2, e, hl, h2⟩
  ·cases h
 | x :: ls, ls', j + 1, cs, h, hr => by
  simp only [Dec.eD, List.getElem?_cons_succ] at h
  split at h
  ·rename_i hx
   simp only [Option.some.injEq, List.set_cons_succ] at h
   subst h
   obtain ⟨c1, c2, e, h1, h2⟩ := hr
   exact ⟨c1, c2, e, h1, aI.eD (j := j) hl (by simp [Dec.eD, hx]) h2⟩
  ·cases h
theorem aI.Dc {N N' : Nat -> Nat -> Prop} (hN : ∀ b j, b < w.heap.size -> N' b j -> N b j) {l' : L} : ∀ {ls : List L} {j : Nat} {l : L} {cs : List Value}, ls[j]? = some l -> (∀ c, l.Rel β w N c -> l'.Rel β w N' c) -> aI β w N ls cs -> aI β w N' (ls.set j l') cs
 | [], j, _, _, h, _, _ => by simp at h
 | x :: ls, 0, l, cs, h, hl, hr => by
  simp only [List.getElem?_cons_zero, Option.some.injEq] at h
  subst h
  obtain ⟨c1, c2, e, h1, h2⟩ := hr
  exact ⟨c1, c2, e, hl _ h1, h2.mono (Moves.refl β) (Keep.refl _ w) hN⟩
 | x :: ls, j + 1, l, cs, h, hl, hr => by
  obtain ⟨c1, c2, e, h1, h2⟩ := hr
  exact ⟨c1, c2, e, h1.mono (Moves.refl β) (Keep.refl _ w) hN, aI.Dc (j := j) hN (by simpa using h) hl h2⟩
theorem bQ.freeze {id : Nat} {e : TypeId} {t : Ty} {v : Nat} {rows : List t.den} {wr : Bool} {h : List Ob} (hs : bQ C β h w) (ho : h[id]? = some (.arr e t v rows wr)) :
  bQ C β (h.set id (.arr e t v rows false)) w ∧ (∀ b j, C.N β (h.set id (.arr e t v rows false)) b j -> C.N β h b j) ∧ ∀ b j, (β id).blk = some b -> ¬ C.N β (h.set id (.arr e t v rows false)) b j := by
 have hi : id < h.length := (List.getElem?_eq_some_iff.1 ho).1
 have hget : ∀ (i : Nat) (o : Ob), (h.set id (.arr e t v rows false))[i]? = some o -> (i ≠ id ∧ h[i]? = some o) ∨ (i = id ∧ o = .arr e t v rows false) := fun i o hio => by
  by_cases hid : i = id
  ·subst hid
   rw [List.getElem?_set_self hi] at hio
   simp only [Option.some.injEq] at hio
   exact .inr ⟨rfl, hio.symm⟩
  ·rw [List.getElem?_set_ne (Ne.symm hid)] at hio
   exact .inl ⟨hid, hio⟩
 have hN : ∀ b j, C.N β (h.set id (.arr e t v rows false)) b j -> C.N β h b j := fun b j hb => by
  rcases hb with hb | ⟨i, o, hio, hw, hbk⟩
  ·exact .inl hb
  ·rcases hget i o hio with ⟨_, hio⟩ | ⟨_, rfl⟩
   ·exact .inr ⟨i, o, hio, hw, hbk⟩
   ·cases hw
 have hob : ∀ (i : Nat) (o : Ob), h[i]? = some o -> o.Rel β w (C.N β (h.set id (.arr e t v rows false))) (β i) := fun i o hio => (hs.obj i o hio).mono (Moves.refl β) (Keep.refl _ w) (fun b j _ hb => hN b j hb) fun _ _ => rfl
 refine ⟨⟨fun i o hio => ?_, fun i hl => hs.dead i (by simpa using hl), fun i j o o' b h1 h2 hb1 hb2 => ?_, fun i o b hio hb => ?_, hs.n0, hs.frame, hs.size, hs.os, hs.tape, hs.output, fun j o hj => ⟨by simpa using (hs.fixed j o hj).1, (hs.fixed j o hj).2⟩⟩, hN, fun b k hb hn => ?_⟩
 ·rcases hget i o hio with ⟨_, hio⟩ | ⟨rfl, rfl⟩
  ·exact hob i o hio
  ·have := hob i _ ho
   simp only [Ob.Rel] at this ⊢
   exact this
 ·have k : ∀ (i : Nat) (o : Ob), (h.set id (.arr e t v rows false))[i]? = some o -> ∃ o' : Ob, h[i]? = some o' ∧ o.dI = o'.dI := fun i o hio => by
   rcases hget i o hio with ⟨_, hio⟩ | ⟨rfl, rfl⟩
   ·exact ⟨o, hio, rfl⟩
   ·exact ⟨_, ho, rfl⟩
  obtain ⟨o1, k1, k3⟩ := k i o h1
  obtain ⟨o2, k2, k4⟩ := k j o' h2
  exact hs.gX i j o1 o2 b k1 k2 (Ob.eO k3 rfl rfl hb1) (Ob.eO k4 rfl rfl hb2)
 ·rcases hget i o hio with ⟨_, hio⟩ | ⟨rfl, rfl⟩
  ·exact hs.fM i o b hio hb
  ·exact hs.kI ho rfl rfl rfl (fun h => by cases h) hb
 ·rcases hn with hn | ⟨i, o, hio, hw, hbk⟩
  ·exact (hs.fresh id _ b ho hb).1 k hn
  ·rcases hget i o hio with ⟨hne, hio⟩ | ⟨_, rfl⟩
   ·exact hne (hs.gX i id o _ b hio ho ⟨k, hbk⟩ (Ob.gM hb))
   ·cases hw
def pG (β : Nat -> Pl) (ρ : List Nat) : Nat -> Pl := fun j => match ρ[j]? with | some i => { β i with ver := 0 } | none => ⟨false, false, 0, none, 0, 0, 0, []⟩
theorem Ik {C : Ctx} {β : Nat -> Pl} {w : World} {h : List Ob} {ρ : List Nat} (hs : bQ C β h w) (hlt : ∀ i ∈ ρ, i < h.length) : Dn β (pG β ρ) ρ h := by
 intro i j hp
 obtain ⟨m, hm, hi⟩ := zI hp
 rw [Nat.zero_add] at hm
 subst hm
 have e : pG β ρ j = { β i with ver := 0 } := by simp only [pG, hi]
 rw [e]
 refine ⟨rfl, rfl, rfl, fun hb => ⟨rfl, ?_, rfl, rfl, rfl⟩⟩
 have hil := hlt i (List.mem_of_getElem? hi)
 have ho : h[i]? = some h[i] := by simp [hil]
 have hob := hs.obj i _ ho
 unfold rQ
 rw [ho]
 cases hoi : h[i] with
 | box e ls =>
  rw [hoi] at hob
  simp only [Ob.Rel] at hob
  rw [hob.2.1] at hb
  cases hb
 | arr e t v rows wr =>
  rw [hoi] at hob
  simp only [Ob.Rel] at hob
  exact hob.2.2.1
 | fm tab =>
  rw [hoi] at hob
  simp only [Ob.Rel] at hob
  rw [hob.2.1] at hb
  cases hb
theorem Sim.gc {σ : St} {a : Act} {ρ : List Nat} (hs : Sim C β σ a w) (hnd : nodupB ρ = true) (hlt : ∀ i ∈ ρ, i < σ.h.length) (hfx : ∀ j, j < C.fix.length -> ρ[j]? = some j) :
  Sim C (pG β ρ) ⟨σ.r.map (V.ren ρ σ.h), inH ρ σ.h⟩ a w := by
 have Mh := Ik hs.heap hlt
 have hget : ∀ i ∈ ρ, ∃ o, σ.h[i]? = some o := fun i hi => ⟨σ.h[i]'(hlt i hi), by simp [hlt i hi]⟩
 have hβ : ∀ {j i : Nat}, ρ[j]? = some i -> pG β ρ j = { β i with ver := 0 } := fun hi => by simp only [pG, hi]
 have hN : ∀ b j, b < w.heap.size -> C.N (pG β ρ) (inH ρ σ.h) b j -> C.N β σ.h b j := fun b k _ hb => by
  rcases hb with hb | ⟨j, o, ho, hw, hbk⟩
  ·exact .inl hb
  ·obtain ⟨i, hi, rfl⟩ := lN ho
   obtain ⟨o', ho'⟩ := hget i (List.mem_of_getElem? hi)
   rw [iB ho', Ob.Gl] at hw
   rw [iB ho', hβ hi] at hbk
   exact .inr ⟨i, o', ho', hw, Ob.qJ (Ob.mW ρ σ.h o') rfl rfl hbk⟩
 refine ⟨⟨?_, ?_, ?_, ?_, hs.heap.n0, hs.heap.frame, hs.heap.size, hs.heap.os, hs.heap.tape, hs.heap.output, ?_⟩, hs.defers, by simpa using hs.size, ?_⟩
 ·intro j o ho
  obtain ⟨i, hi, rfl⟩ := lN ho
  obtain ⟨o', ho'⟩ := hget i (List.mem_of_getElem? hi)
  rw [iB ho', hβ hi]
  have hob := hs.heap.obj i o' ho'
  cases o' with
  | box e ls =>
   simp only [Ob.ren, Ob.Rel] at *
   obtain ⟨h1, h2, b, cs, h3, h4, h5⟩ := hob
   exact ⟨h1, h2, b, cs, h3, h4.iZ Mh hN, h5⟩
  | arr e t v rows wr =>
   simp only [Ob.ren, Ob.Rel] at *
   obtain ⟨h1, h2, h3, h4, h5, h6, h7⟩ := hob
   refine ⟨h1, h2, trivial, h4, h5, h6, ?_⟩
   rcases h7 with h7 | ⟨b, cur, css, k1, k2, k3, k4⟩
   ·exact .inl h7
   ·exact .inr ⟨b, cur, css, k1, k2, k3.mono fun _ _ h => h.mono (Keep.refl _ w) hN, k4⟩
  | fm tab => simp only [Ob.ren, Ob.Rel] at *; exact hob
 ·intro j hj
  simp only [inH, List.length_map] at hj
  simp only [pG, List.getElem?_eq_none hj]
 ·intro i j o1 o2 b h1 h2 hb1 hb2
  obtain ⟨i', hi, rfl⟩ := lN h1
  obtain ⟨j', hj, rfl⟩ := lN h2
  obtain ⟨o1', ho1⟩ := hget i' (List.mem_of_getElem? hi)
  obtain ⟨o2', ho2⟩ := hget j' (List.mem_of_getElem? hj)
  rw [hβ hi, iB ho1] at hb1
  rw [hβ hj, iB ho2] at hb2
  have := hs.heap.gX i' j' o1' o2' b ho1 ho2 (Ob.eO (Ob.mW ρ σ.h o1') rfl rfl hb1) (Ob.eO (Ob.mW ρ σ.h o2') rfl rfl hb2)
  subst this
  exact tN hnd hi hj
 ·intro j o b ho hb
  obtain ⟨i, hi, rfl⟩ := lN ho
  obtain ⟨o', ho'⟩ := hget i (List.mem_of_getElem? hi)
  rw [iB ho'] at hb ⊢
  exact hs.heap.kI ho' (Ob.mW ρ σ.h o') (by rw [hβ hi]) (by rw [hβ hi]) (fun h => by rw [Ob.Gl] at h; exact h) hb
 ·intro j o hj
  obtain ⟨k1, k2⟩ := hs.heap.fixed j o hj
  have hj2 := hfx j (List.getElem?_eq_some_iff.1 hj).1
  refine ⟨by simpa [inH] using (List.getElem?_eq_some_iff.1 hj2).1, fun b hb => ?_⟩
  rw [hβ hj2]
  exact k2 b hb
 ·intro i v hv
  simp only [List.getElem?_map, Option.map_eq_some_iff] at hv
  obtain ⟨v0, hv0, rfl⟩ := hv
  exact (hs.reg i v0 hv0).iZ Mh hN
end
end Go.Dec
