/- Part of a proof over this seat: a library of my own, and what it says of this seat. No statement is proved here. -/
import Derived.Test.YtlimifngdjkogaaGreatDoorPartAD
import Derived.Lib.AppendStr
namespace Go.Dec
section
variable {β : Nat -> Pl} {w : World} {T : Tab} {C : Ctx}
theorem eB {N : Nat -> Nat -> Prop} {v : V} {k : IntKind} {n : Int} {x : Value} (h : iV v = some (k, n)) (hr : v.Rel β w N x) : x = .int k n := by
 unfold iV at h
 split at h
 ·simp only [Option.some.injEq, Prod.mk.injEq] at h
  obtain ⟨rfl, rfl⟩ := h
  simp only [V.Rel, L.Rel, Ty.Rel, List.cons.injEq, and_true] at hr
  exact hr
 ·cases h
theorem zFp {N : Nat -> Nat -> Prop} {op : UnOp} {l r : L} {x : Value} (h : un op l = some (true, r)) (hr : l.Rel β w N [x]) : ∃ y, (Op.unary op x).run C.P w = .ok y w ∧ r.Rel β w N [y] := by
 unfold un at h
 split at h
 ·simp only [Option.some.injEq, Prod.mk.injEq, true_and] at h
  subst h
  simp only [L.Rel, Ty.Rel, List.cons.injEq, and_true] at hr ⊢
  subst hr
  exact ⟨_, rfl, rfl⟩
 ·simp only [Option.some.injEq, Prod.mk.injEq, true_and] at h
  subst h
  simp only [L.Rel, Ty.Rel, List.cons.injEq, and_true] at hr ⊢
  subst hr
  exact ⟨_, rfl, rfl⟩
 ·cases h
theorem bY {op : BinOp} {t : TypeId} {x y : Operand} {a b : Value} (h1 : a ≠ .nilIface ∨ b ≠ .nilIface) (h2 : (∀ c, a ≠ .agg c) ∨ (∀ c, b ≠ .agg c)) : (eqGuard op t x y a b).run C.P w = .ok () w := by
 unfold eqGuard
 cases op <;> simp only [Bool.not_true, Bool.not_false, Bool.false_eq_true, if_false, if_true, Sem.run_pure] <;> try rfl
 all_goals
  split
  ·simp at h1
  ·rename_i c d
   rcases h2 with h2 | h2
   ·exact absurd rfl (h2 c)
   ·exact absurd rfl (h2 d)
  ·rfl
theorem gN {N : Nat -> Nat -> Prop} {ty : Ty} {ls : List L} {x : ty.den} {cs : List Value} (h : aW ty ls = some (x, [])) (hr : aC β w N ls cs) : ty.Rel w N x cs := by
 obtain ⟨c1, c2, e, h1, h2⟩ := iX h hr
 simp only [aC] at h2
 subst h2
 rw [List.append_nil] at e
 subst e
 exact h1
theorem zDz {N : Nat -> Nat -> Prop} {xt : TypeId} {a b : List L} {r : Bool} {ca cb : List Value} {op : BinOp} {x y : Operand} (hT : aT C.P T) (h : eqV T xt a b = some r) (hop : isEq op = true) (ha : aC β w N a ca) (hb : aC β w N b cb) :
  (eqGuard op xt x y (.agg ca.toArray) (.agg cb.toArray)).run C.P w = .ok () w ∧ (binOp op xt (.agg ca.toArray) (.agg cb.toArray)).run C.P w = .ok (.bool (sgn op r)) w := by
 unfold eqV at h
 split at h
 ·rename_i ti hti
  split at h
  ·rename_i ty hty
   split at h
   ·rename_i hc
    simp only [Bool.and_eq_true] at hc
    obtain ⟨⟨h1, h2⟩, h3⟩ := hc
    split at h
    ·rename_i p q hp hq
     simp only [Option.some.injEq] at h
     subst h
     have hok := hT _ _ hti
     obtain ⟨hg, he⟩ := hok.eqs h1
     have hrp := gN hp ha
     have hrq := gN hq hb
     have hrun := sQ (P := C.P) (w := w) (N := N) 12 xt ty p q ca cb 10000 (by omega) (hok.ty.trans hty) he h2 hrp hrq
     simp only [valOf, h3, if_true] at hrun
     refine ⟨run_eqGuard_agg w op xt x y _ _ hg, ?_⟩
     cases op <;> simp only [isEq, Bool.false_eq_true] at hop
     ·rw [run_eql_struct, hrun]; rfl
     ·rw [run_neq_struct, hrun]; rfl
    ·cases h
   ·cases h
  ·cases h
 ·cases h
theorem jI {xt : TypeId} {u v : Value} {r : Bool} (d : Nat) (h : (xt ∈ ([] : List Nat)) ∨ (∃ e, C.P.underlying xt = some (.pointer e) ∧ ((u = .pointer none ∧ v = .pointer none ∧ r = true) ∨ (∃ a, u = .pointer (some a) ∧ v = .pointer none ∧ r = false))) ∨
      (∃ ms, C.P.underlying xt = some (.interface ms) ∧ ((u = .nilIface ∧ v = .nilIface ∧ r = true) ∨ (∃ t x, u = .iface t x ∧ v = .nilIface ∧ r = false))) ∨
      (∃ ps rs b, C.P.underlying xt = some (.func ps rs b) ∧ ∃ f x y, u = .func f x y ∧ v = .nilFunc ∧ r = false) ∨
      (∃ e, C.P.underlying xt = some (.slice e) ∧ u = .slice none 0 0 ∧ v = .slice none 0 0 ∧ r = true)) : (Op.equalIn (d + 1) xt u v).run C.P w = .ok r w := by
  rcases h with h | ⟨e, hu, ⟨rfl, rfl, rfl⟩ | ⟨a, rfl, rfl, rfl⟩⟩ | ⟨ms, hu, ⟨rfl, rfl, rfl⟩ | ⟨t, x, rfl, rfl, rfl⟩⟩ | ⟨ps, rs, b, hu, f, x, y, rfl, rfl, rfl⟩ | ⟨e, hu, rfl, rfl, rfl⟩
  · cases h
  all_goals simp only [Op.equalIn, Sem.run_bind, run_underlying hu, Result.andThen_ok, Sem.run_pure, Option.isNone_none]
theorem jJ {xt : TypeId} {u v : Value} {r : Bool} {op : BinOp} {x y : Operand} (hop : isEq op = true) (hg : (eqGuard op xt x y u v).run C.P w = .ok () w) (hs : (∃ a b, u = .pointer a ∧ v = .pointer b) ∨ (v = .nilIface) ∨ (v = .nilFunc) ∨ (∃ a b c d e f, u = .slice a b c ∧ v = .slice d e f))
  (h : ∀ d, (Op.equalIn (d + 1) xt u v).run C.P w = .ok r w) : ((do eqGuard op xt x y u v; binOp op xt u v : Sem Value)).run C.P w = .ok (.bool (sgn op r)) w := by
 rw [Sem.run_bind, hg, Result.andThen_ok]
 have h' : (Op.equal xt u v).run C.P w = .ok r w := h 9999
 cases op <;> simp only [isEq, Bool.false_eq_true] at hop
 all_goals
  rcases hs with ⟨a, b, rfl, rfl⟩ | rfl | rfl | ⟨a, b, c, d, e, f, rfl, rfl⟩
  ·simp only [binOp, Sem.run_bind, h', Result.andThen_ok, Sem.run_pure, sgn]
  ·cases u <;> simp only [binOp, Sem.run_bind, h', Result.andThen_ok, Sem.run_pure, sgn]
  ·cases u <;> simp only [binOp, Sem.run_bind, h', Result.andThen_ok, Sem.run_pure, sgn]
  ·simp only [binOp, Sem.run_bind, h', Result.andThen_ok, Sem.run_pure, sgn]
theorem Yy {N : Nat -> Nat -> Prop} {xt : TypeId} {ti : TI} {l : L} {x y : Operand} {ρ : Operand -> Value} {op : BinOp} {b : Bool} (hT : aT C.P T) (hti : T.get xt = some ti) (h : Om ti.k l y = some b) (hop : isEq op = true) (hr : l.Rel β w N [ρ x]) (hc : ∀ v, ρ (.const v) = v) :
  ((do eqGuard op xt x y (ρ x) (ρ y); binOp op xt (ρ x) (ρ y) : Sem Value)).run C.P w = .ok (.bool (sgn op b)) w := by
 have hok := hT _ _ hti
 unfold Om at h
 split at h <;> simp only [Option.some.injEq, reduceCtorEq] at h <;> subst h
 ·rename_i e _ hk
  simp only [L.Rel, List.cons.injEq, and_true] at hr
  rw [hr, hc]
  exact jJ hop (bY (.inl (by simp)) (.inl (by simp))) (.inl ⟨_, _, rfl, rfl⟩) fun d => jI d (.inr (.inl ⟨_, hok.ptr hk, .inl ⟨rfl, rfl, rfl⟩⟩))
 ·rename_i e id off hk
  simp only [L.Rel, List.cons.injEq, and_true] at hr
  obtain ⟨_, _, b, _, hr⟩ := hr
  rw [hr, hc]
  exact jJ hop (bY (.inl (by simp)) (.inl (by simp))) (.inl ⟨_, _, rfl, rfl⟩) fun d => jI d (.inr (.inl ⟨_, hok.ptr hk, .inr ⟨_, rfl, rfl, rfl⟩⟩))
 ·rename_i e id off es i sub hk
  simp only [L.Rel, List.cons.injEq, and_true] at hr
  obtain ⟨_, _, b, _, hr⟩ := hr
  rw [hr, hc]
  exact jJ hop (bY (.inl (by simp)) (.inl (by simp))) (.inl ⟨_, _, rfl, rfl⟩) fun d => jI d (.inr (.inl ⟨_, hok.ptr hk, .inr ⟨_, rfl, rfl, rfl⟩⟩))
 ·rename_i e t x off hk
  simp only [L.Rel, List.cons.injEq, and_true] at hr
  obtain ⟨c, hr, b, o, cs, rfl, _⟩ := hr
  rw [hr, hc]
  exact jJ hop (bY (.inl (by simp)) (.inl (by simp))) (.inl ⟨_, _, rfl, rfl⟩) fun d => jI d (.inr (.inl ⟨_, hok.ptr hk, .inr ⟨_, rfl, rfl, rfl⟩⟩))
 ·rename_i e bb hk
  simp only [L.Rel, Ty.Rel, List.cons.injEq, and_true] at hr
  obtain ⟨v, hr, hv⟩ := hr
  obtain ⟨ms, hu⟩ := hok.iface hk
  rcases hv with ⟨rfl, t, x, rfl⟩ | ⟨rfl, rfl⟩
  ·rw [hr, hc]
   exact jJ hop (bY (.inl (by simp)) (.inl (by simp))) (.inr (.inl rfl)) fun d => jI d (.inr (.inr (.inl ⟨_, hu, .inr ⟨_, _, rfl, rfl, rfl⟩⟩)))
  ·rw [hr, hc]
   exact jJ hop (by cases op <;> simp [isEq] at hop <;> simp [eqGuard]) (.inr (.inl rfl)) fun d => jI d (.inr (.inr (.inl ⟨_, hu, .inl ⟨rfl, rfl, rfl⟩⟩)))
 ·rename_i f cs hk
  simp only [L.Rel, List.cons.injEq, and_true] at hr
  obtain ⟨us, hr, _⟩ := hr
  obtain ⟨d, hd, hk'⟩ := hok.und
  rw [hk] at hk'
  cases d <;> simp only [TK.of, reduceCtorEq] at hk'
  rw [hr, hc]
  exact jJ hop (bY (.inl (by simp)) (.inl (by simp))) (.inr (.inr (.inl rfl))) fun d => jI d (.inr (.inr (.inr (.inl ⟨_, _, _, hd, _, _, _, rfl, rfl, rfl⟩))))
 ·rename_i e hk
  simp only [L.Rel, List.cons.injEq, and_true] at hr
  rw [hr, hc]
  exact jJ hop (bY (.inl (by simp)) (.inl (by simp))) (.inr (.inr (.inr ⟨_, _, _, _, _, _, rfl, rfl⟩))) fun d => jI d (.inr (.inr (.inr (.inr ⟨_, hok.slice hk, rfl, rfl, rfl⟩))))
theorem zEa {N : Nat -> Nat -> Prop} {op : BinOp} {xt : TypeId} {x y : Operand} {a b r : L} {u v : Value} (hnb : ∀ p q, ¬ (a = .val .bool p ∧ b = .val .bool q)) (h : bin op a b = some (true, r)) (ha : a.Rel β w N [u]) (hb : b.Rel β w N [v]) :
  ∃ z, ((do eqGuard op xt x y u v; binOp op xt u v : Sem Value)).run C.P w = .ok z w ∧ r.Rel β w N [z] := by
 unfold bin at h
 split at h
 ·simp only [L.Rel, Ty.Rel, List.cons.injEq, and_true] at ha hb
  subst ha hb
  rw [Sem.run_bind, bY (.inl (by simp)) (.inl (by simp)), Result.andThen_ok]
  split at h
  ·exact Va xt h
  ·rename_i hs
   split at h
   ·rename_i hk
    subst hk
    exact zAs xt (by simpa using hs) h
   ·cases h
 ·simp only [L.Rel, Ty.Rel, List.cons.injEq, and_true] at ha hb
  subst ha hb
  rw [Sem.run_bind, bY (.inl (by simp)) (.inl (by simp)), Result.andThen_ok]
  exact zAt xt h
 ·rename_i p q
  exact absurd ⟨rfl, rfl⟩ (hnb p q)
 ·cases h
theorem zAv {σ : St} {a : Act} {op : BinOp} {xt : TypeId} {x y : Operand} {v : V} (hT : aT C.P T) (hs : Sim C β σ a w) (h : Cw T σ op xt x y = some (true, v)) :
  ∃ z, ((do eqGuard op xt x y (a.eval x) (a.eval y); binOp op xt (a.eval x) (a.eval y) : Sem Value)).run C.P w = .ok z w ∧ v.Rel β w (C.N β σ.h) z := by
 have hx := aG hs x
 have hy := aG hs y
 unfold Cw at h
 split at h
 ·rename_i hc
  simp only [Bool.and_eq_true] at hc
  split at h
  ·rename_i l ti hl hti
   split at h
   ·rename_i b hb
    simp only [Option.some.injEq, Prod.mk.injEq, true_and] at h
    subst h
    rw [hl] at hx
    exact ⟨_, Yy (N := C.N β σ.h) (ρ := a.eval) hT hti hb hc.1 hx (fun _ => rfl), by simp only [V.Rel, L.Rel, Ty.Rel]⟩
   ·cases h
  ·cases h
 ·split at h
  ·rename_i p q hp hq
   rw [hp] at hx
   rw [hq] at hy
   split at h
   ·rename_i p q _
    split at h
    ·rename_i ti hti
     split at h
     ·rename_i hk
      split at h
      ·rename_i c r hb
       simp only [Option.some.injEq, Prod.mk.injEq] at h
       obtain ⟨rfl, rfl⟩ := h
       simp only [V.Rel, L.Rel, Ty.Rel, List.cons.injEq, and_true] at hx hy
       rw [hx, hy, Sem.run_bind, bY (.inl (by simp)) (.inl (by simp)), Result.andThen_ok]
       exact Yu xt ((hT _ _ hti).bool hk) hb
      ·cases h
     ·cases h
    ·cases h
   ·rename_i a1 b1 hnb
    split at h
    ·rename_i c r hb
     simp only [Option.some.injEq, Prod.mk.injEq] at h
     obtain ⟨rfl, rfl⟩ := h
     exact zEa (N := C.N β σ.h) (fun p q hpq => hnb p q hpq.1 hpq.2) hb hx hy
    ·cases h
  ·rename_i p q hp hq
   rw [hp] at hx
   rw [hq] at hy
   split at h
   ·rename_i hop
    split at h
    ·rename_i r hr
     simp only [Option.some.injEq, Prod.mk.injEq, true_and] at h
     subst h
     obtain ⟨ca, hca, hra⟩ := hx
     obtain ⟨cb, hcb, hrb⟩ := hy
     rw [hca, hcb]
     obtain ⟨h1, h2⟩ := zDz (x := x) (y := y) hT hr hop hra hrb
     exact ⟨_, by rw [Sem.run_bind, h1, Result.andThen_ok, h2], by simp only [V.Rel, L.Rel, Ty.Rel]⟩
    ·cases h
   ·cases h
  ·cases h
theorem Yz {σ : St} {a : Act} {s d : TypeId} {x : Operand} {v : V} (hT : aT C.P T) (hs : Sim C β σ a w) (h : nO T σ s d x = some (true, v)) :
  ∃ z, (convert s d (a.eval x)).run C.P w = .ok z w ∧ v.Rel β w (C.N β σ.h) z := by
 have hx := aG hs x
 unfold nO at h
 split at h
 ·rename_i ts td l hts htd hl
  rw [hl] at hx
  split at h
  ·rename_i k ks kn n hkd hks
   simp only [Option.some.injEq, Prod.mk.injEq, true_and] at h
   subst h
   simp only [V.Rel, L.Rel, Ty.Rel, List.cons.injEq, and_true] at hx
   rw [hx]
   refine ⟨.int k (k.wrap n), ?_, by simp only [V.Rel, L.Rel, Ty.Rel]⟩
   simp only [convert, Sem.run_bind, run_underlying ((hT _ _ hts).int hks), run_underlying ((hT _ _ htd).int hkd), Result.andThen_ok, Conv.intToInt, Sem.run_pure]
  ·rename_i s0 hkd hks
   simp only [Option.some.injEq, Prod.mk.injEq, true_and] at h
   subst h
   simp only [V.Rel, L.Rel, Ty.Rel, List.cons.injEq, and_true] at hx
   rw [hx]
   refine ⟨.string ⟨s0.toArray⟩, ?_, by simp only [V.Rel, L.Rel, Ty.Rel]⟩
   simp only [convert, Sem.run_bind, run_underlying ((hT _ _ hts).str hks), run_underlying ((hT _ _ htd).str hkd), Result.andThen_ok, Sem.run_pure]
  ·cases h
 ·cases h
theorem sS (places : Nat -> Option (Nat × Nat)) (cs : Array Value) (i off size : Nat) (v : Value) (rest : List (Nat × Value)) (hp : places i = some (off, size)) (hsz : v.cells.size = size) (hfit : off + size <= cs.size) :
  Instr.fill places cs ((i, v) :: rest) = Instr.fill places (cs.toList.take off ++ v.cells.toList ++ cs.toList.drop (off + size)).toArray rest := by
 simp only [Instr.fill, hp]
 rw [if_neg (by simp only [Bool.or_eq_true, decide_eq_true_eq, not_or]; constructor <;> omega)]
 congr 1
 have key : ∀ (vs : List Value) (k : Nat) (cs : Array Value), off + k + vs.length <= cs.size ->
   (vs.zipIdx k).foldl (fun (cs : Array Value) (p : Value × Nat) => cs.setIfInBounds (off + p.2) p.1) cs = (cs.toList.take (off + k) ++ vs ++ cs.toList.drop (off + k + vs.length)).toArray := by
  intro vs
  induction vs with
  | nil => intro k cs _; simp
  | cons v vs ih =>
   intro k cs hk
   simp only [List.zipIdx_cons, List.foldl_cons]
   rw [ih (k + 1) _ (by simp at hk ⊢; omega)]
   have e := list_seg_step cs.toList (off + k) v vs (by simp at hk ⊢; omega)
   congr 1
   simpa [Array.toList_setIfInBounds, Nat.add_assoc] using e
 rw [<- Array.foldl_toList]
 have := key v.cells.toList 0 cs (by simp; omega)
 simp only [Nat.add_zero, Array.length_toList, hsz] at this
 rw [<- this]
 simp [Array.toList_zipIdx]
theorem Et {N : Nat -> Nat -> Prop} {fs : List (Nat × TypeId)} {places : Nat -> Option (Nat × Nat)} (hT : aT C.P T) (hpl : ∀ i off ft ti, fs[i]? = some (off, ft) -> T.get ft = some ti -> places i = some (off, ti.size)) :
  ∀ (parts : List (Nat × V)) (vs : List (Nat × Value)) (ls ls' : List L) (cs : Array Value), build T fs ls parts = some ls' -> aC β w N ls cs.toList -> aJ (fun (p : Nat × V) (q : Nat × Value) => p.1 = q.1 ∧ p.2.Rel β w N q.2) parts vs ->
   ∃ cs' : Array Value, Instr.fill places cs vs = some cs' ∧ aC β w N ls' cs'.toList
 | [], [], ls, ls', cs, h, hr, _ => by
  simp only [build, Option.some.injEq] at h
  subst h
  exact ⟨cs, rfl, hr⟩
 | (i, v) :: parts, (j, x) :: vs, ls, ls', cs, h, hr, ha => by
  obtain ⟨⟨e, hv⟩, ha⟩ := ha
  simp only at e
  subst e
  simp only [build] at h
  split at h
  ·rename_i off ft new hf hn
   split at h
   ·rename_i ti hti
    split at h
    ·rename_i hsz
     split at h
     ·rename_i ls1 hset
      have hrx := V.lS hn hv
      obtain ⟨hr1, hle⟩ := yU hset hr hrx
      have hxs : x.cells.size = ti.size := by rw [<- hsz, <- hrx.length]; simp
      have hxl : x.cells.toList.length = ti.size := by simpa using hxs
      rw [hxl] at hr1 hle
      have hfit : off + ti.size <= cs.size := by simpa using hle
      rw [sS places cs i off ti.size x vs (hpl i off ft ti hf hti) hxs hfit]
      exact Et hT hpl parts vs ls1 ls' _ h (by simpa [List.append_assoc] using hr1) ha
     ·cases h
    ·cases h
   ·cases h
  ·cases h
 | [], _ :: _, _, _, _, _, _, ha => ha.elim
 | _ :: _, [], _, _, _, _, _, ha => ha.elim
theorem Oo {σ : St} {a : Act} (hs : Sim C β σ a w) : ∀ parts : List (Nat × Operand), aJ (fun (p : Nat × V) (q : Nat × Value) => p.1 = q.1 ∧ p.2.Rel β w (C.N β σ.h) q.2) (vals σ parts) (parts.map fun p => (p.1, a.eval p.2))
 | [] => trivial
 | (_i, x) :: r => ⟨⟨rfl, aG hs x⟩, Oo hs r⟩
theorem Vk {σ : St} {a : Act} {t : TypeId} {parts : Array (Nat × Operand)} {v : V} (hT : aT C.P T) (hs : Sim C β σ a w) (h : oI T σ t parts.toList = some (true, v)) :
  ∃ z, (Instr.build t (parts.map fun p => (p.1, a.eval p.2))).run C.P w = .ok z w ∧ v.Rel β w (C.N β σ.h) z := by
 unfold oI at h
 split at h
 ·rename_i ti hti
  split at h
  ·rename_i fs hk
   split at h
   case isFalse => cases h
   rename_i hpl
   split at h
   ·rename_i ls hb
    simp only [Option.some.injEq, Prod.mk.injEq, true_and] at h
    subst h
    have hok := hT _ _ hti
    obtain ⟨ff, hu, rfl⟩ := hok.struct hk
    obtain ⟨_, z, hi, his, hib, hz, lU, hzs, zIv⟩ := hok.i
    have hmap : ∀ (l : List Field) (_ : ∀ f ∈ l, (T.get f.type).isSome = true) (acc : Array (Nat × Nat)), (l.foldlM (fun (acc : Array (Nat × Nat)) f => do
      let s <- sizeOf f.type
      pure (acc.push (f.offset, s))) acc : Sem (Array (Nat × Nat))).run C.P w = .ok (acc ++ (l.map fun f => (f.offset, ((T.get f.type).map (·.size)).getD 0)).toArray) w := by
     intro l
     induction l with
     | nil => intro _ acc; simp
     | cons f l ih =>
      intro hl acc
      obtain ⟨tf, htf⟩ := Option.isSome_iff_exists.1 (hl f (.head _))
      simp only [List.foldlM_cons, Sem.run_bind, (hT _ _ htf).sizeOf, Result.andThen_ok, Sem.run_pure]
      rw [ih (fun g hg => hl g (.tail _ hg))]
      simp [htf]
    have hall : ∀ f ∈ ff.toList, (T.get f.type).isSome = true := fun f hf => List.all_eq_true.1 hpl (f.offset, f.type) (List.mem_map.2 ⟨f, hf, rfl⟩)
    have Im : (ff.mapM (fun f => do pure (f.offset, <- sizeOf f.type)) : Sem (Array (Nat × Nat))).run C.P w = .ok ((ff.toList.map fun f => (f.offset, ((T.get f.type).map (·.size)).getD 0)).toArray) w := by
     rw [Array.mapM_eq_foldlM, <- Array.foldlM_toList]
     have := hmap ff.toList hall #[]
     simp only [bind_pure_comp] at this ⊢
     simpa using this
    have zIw : ∀ (i off : Nat) (ft : TypeId) (tf : TI), (ff.toList.map fun f => (f.offset, f.type))[i]? = some (off, ft) -> T.get ft = some tf -> (((ff.toList.map fun f => (f.offset, ((T.get f.type).map (·.size)).getD 0)).toArray)[i]? : Option (Nat × Nat)) = some (off, tf.size) := by
     intro i off ft tf h1 h2
     simp only [List.getElem?_map, Option.map_eq_some_iff, Prod.mk.injEq, List.getElem?_toArray] at h1 ⊢
     obtain ⟨f, hf, rfl, rfl⟩ := h1
     exact ⟨f, hf, rfl, by simp [h2]⟩
    obtain ⟨cs', zId, hr⟩ := Et (β := β) (w := w) (N := C.N β σ.h) (places := fun i => (((ff.toList.map fun f => (f.offset, ((T.get f.type).map (·.size)).getD 0)).toArray)[i]? : Option (Nat × Nat))) hT zIw (vals σ parts.toList) (parts.toList.map fun p => (p.1, a.eval p.2)) ti.zls ls z.cells hb (lU _ _ _) (Oo hs _)
    refine ⟨.agg cs', ?_, ⟨cs'.toList, rfl, hr⟩⟩
    have hzv : (zeroValue t).run C.P w = .ok z w := by simp [zeroValue, typeInfo, hi, hz]
    simp only [Instr.build, Sem.run_bind, hzv, Result.andThen_ok, run_underlying hu, Im, Array.toList_map]
    rw [zId]
    rfl
   ·cases h
  ·cases h
 ·cases h
theorem zEb {N : Nat -> Nat -> Prop} {v r : V} {i : Nat} {x : Value} (h : ext v i = some r) (hr : v.Rel β w N x) : ∃ z, (Instr.extract x i).run C.P w = .ok z w ∧ r.Rel β w N z := by
 unfold ext at h
 split at h
 ·rename_i vs
  obtain ⟨us, rfl, hall⟩ := hr
  have hi : i < vs.length := by
   rcases Nat.lt_or_ge i vs.length with h1 | h1
   ·exact h1
   ·rw [List.getElem?_eq_none h1] at h; cases h
  have hi1 : i < us.length := by rw [<- hall.length]; exact hi
  have hrel := hall.get i hi hi1
  rw [List.getElem?_eq_getElem hi] at h
  refine ⟨us[i], by simp [Instr.extract, hi1], ?_⟩
  split at h
  ·rename_i l hl
   simp only [Option.some.injEq] at h hl
   subst h
   rw [hl] at hrel
   exact hrel
  ·rename_i ls hl
   simp only [Option.some.injEq] at h hl
   subst h
   rw [hl] at hrel
   exact hrel
  ·cases h
 ·cases h
end
end Go.Dec
namespace Go.Dec
section
variable {β : Nat -> Pl} {w : World} {T : Tab} {C : Ctx}
theorem Vl (w : World) (N : Nat -> Nat -> Prop) (l : List Int) : aJ (fun (x : Int) (c : List Value) => (Ty.int .u8).Rel w N x c) l (l.map fun n => [Value.int .u8 n]) := by
 induction l with
 | nil => trivial
 | cons x l ih => exact ⟨rfl, ih⟩
theorem Io (s : List UInt8) : Lib.strCells ⟨s.toArray⟩ = ((aX s).map fun n => [Value.int .u8 n]).flatten := by
 simp only [Lib.strCells, aX]
 induction s with
 | nil => rfl
 | cons b s ih => simp at ih ⊢; exact ih
theorem Ll {σ : St} {a : Act} {st sx e : TypeId} {ts tx ti : TI} {rows : List Int} {s : List UInt8} {x : Value} {id ver : Nat} (ty : TypeId) (hT : aT C.P T) (hst : T.get st = some ts) (hk : ts.k = .slice e) (hsx : T.get sx = some tx) (hkx : tx.k = .str) (hti : T.get e = some ti) (hsz : ti.size = 1)
    (hby : 0 < ti.bytes) (hroom : (rows.length + s.length) * ti.bytes <= room) (hs : Sim C β σ a w) (ho : σ.h[id]? = some (.arr e (.int .u8) ver rows true)) (hx : bP (β id) 0 rows.length x) :
    ∃ v' w' β', (Builtin.append_ #[st, sx] ty #[x, .string ⟨s.toArray⟩]).run C.P w = .ok v' w' ∧ Moves β β' ∧ Sim C β' { σ with h := σ.h.set id (.arr e (.int .u8) (ver + 1) (rows ++ aX s) true) } a w' ∧
      (L.own id (ver + 1)).Rel β' w' (C.N β' (σ.h.set id (.arr e (.int .u8) (ver + 1) (rows ++ aX s) true))) [v'] ∧ Keep (C.N β σ.h) w w' := by
  have hu := (hT _ _ hst).slice hk
  obtain ⟨i, z, hi, his, hib, hz, lU, hzs, _⟩ := (hT _ _ hti).i
  have hlen : rows.length + s.length <= (rows.length + s.length) * ti.bytes := Nat.le_mul_of_pos_right _ hby
  have hus := (hT _ _ hsx).str hkx
  have hss : (⟨s.toArray⟩ : ByteArray).size = s.length := by simp [ByteArray.size]
  unfold room at hroom
  have hob := hs.heap.obj _ _ ho
  simp only [Ob.Rel] at hob
  obtain ⟨hlive, lT, hpv, hpz, hpos, hpl, hob⟩ := hob
  have hrl : (rows ++ aX s).length = rows.length + s.length := by simp [aX]
  have fin : ∀ (w' : World) (bk cap : Nat) (cur : Array Value) (css : List (List Value)), (bk = w.heap.size ∧ w.heap.size < w'.heap.size ∨ (β id).blk = some bk) -> Keep (fun k _ => (β id).blk = some k ∧ True) w w' -> Same w w' ->
      w'.heap[bk]? = some (.cells cur e (0, 0)) -> aJ (fun x c => (Ty.int .u8).Rel w (C.N β σ.h) x c) (rows ++ aX s) css -> cur.toList.take ((rows.length + s.length) * 1) = css.flatten -> cur.size = cap * 1 -> rows.length + s.length <= cap -> cap <= maxLen ->
      ∃ β', Moves β β' ∧ Sim C β' { σ with h := σ.h.set id (.arr e (.int .u8) (ver + 1) (rows ++ aX s) true) } a w' ∧
        (L.own id (ver + 1)).Rel β' w' (C.N β' (σ.h.set id (.arr e (.int .u8) (ver + 1) (rows ++ aX s) true))) [.slice (some ⟨bk, 0, none⟩) (rows.length + s.length) cap] := by
    intro w' bk cap cur css hbk hkeep hsame hheap hall htake hcsz hle hm
    let p : Pl := ⟨true, false, ver + 1, some bk, 1, cap, rows.length + s.length, []⟩
    have hmv : Moves β (upd β id p) := fun j hj => by
      by_cases hji : j = id
      · subst hji
        rw [upd_same]
        exact .inr ⟨lT, rfl, rfl, by rw [hpv]; exact Nat.lt_succ_self _⟩
      · exact .inl (aB _ _ hji)
    have hpb : p.blk = (β id).blk ∨ p.blk = none ∨ (p.blk = some w.heap.size ∧ w.heap.size < w'.heap.size) := by
      rcases hbk with ⟨e1, h2⟩ | e1
      · right; right; exact ⟨by simp only [p, e1], h2⟩
      · left; simp only [p, e1]
    have hkk : Keep (fun k _ => (β id).blk = some k ∧ Ob.wr (.arr e (.int .u8) ver rows true) = true) w w' := hkeep.weaken fun k _ hk => ⟨hk.1, rfl⟩
    refine ⟨upd β id p, hmv, hs.set (p := p) ho (fun _ => rfl) hpb hkk hsame hmv ?_, ?_⟩
    · simp only [Ob.Rel]
      refine ⟨rfl, rfl, rfl, rfl, hpos, hrl.symm, .inr ⟨bk, cur, css, rfl, hheap, ?_, by rw [hrl]; exact htake, hcsz, by rw [hrl]; exact hle, hm⟩⟩
      exact hall.mono fun _ _ h => h.mono (hkk.weaken fun k _ hk => .inr ⟨id, _, ho, rfl, Ob.iJ hk.1⟩) fun k j hlt hn => mQ (w := w) ho (at_set (fun _ => rfl) (hpb.imp (fun h => h) (·.imp (fun h => h) (·.1))) rfl) hlt hn
    · simp only [L.Rel, upd_same]
      refine ⟨rfl, rfl, Nat.le_refl _, _, rfl, rfl, fun _ => ?_⟩
      unfold bP
      simp only [p]
      exact ⟨by omega, 0, rfl, .inl (by simp)⟩
  have toK : ∀ {w' : World}, Keep (fun k _ => (β id).blk = some k ∧ True) w w' -> Keep (C.N β σ.h) w w' := fun h => h.weaken fun k _ hk => .inr ⟨id, _, ho, rfl, Ob.iJ hk.1⟩
  have hcells := Io s
  have hmul : s.length * ti.bytes <= (rows.length + s.length) * ti.bytes := Nat.mul_le_mul_right _ (by omega)
  have hsm : s.length <= 140737488355328 := by omega
  have hsb : s.length * ti.bytes <= 140737488355328 := by omega
  have kJ : aJ (fun x c => (Ty.int .u8).Rel w (C.N β σ.h) x c) (aX s) ((aX s).map fun n => [Value.int .u8 n]) := Vl _ _ _
  have hsl : (aX s).length = s.length := by simp [aX]
  have hfy : (Lib.strCells ⟨s.toArray⟩).length = s.length := by rw [Lib.strCells_length, hss]
  rcases hob with ⟨hnb, hr0, hcap0⟩ | ⟨b, cur, css, hb, hheap, hall, htake, hcap, hrc, hcm⟩
  ·
    subst hr0
    unfold bP at hx
    rw [hnb] at hx
    obtain ⟨rfl, _, _⟩ := hx
    by_cases h0 : s.length = 0
    · have hys : s = [] := List.eq_nil_of_length_eq_zero h0
      subst hys
      have hrun : (Builtin.append_ #[st, sx] ty #[.slice none 0 0, .string ⟨#[]⟩]).run C.P w = .ok (.slice none 0 0) w := by
        have h1 : ByteArray.size ⟨#[]⟩ = 0 := rfl
        simp [Builtin.append_, run_underlying hu, run_underlying hus, Go.sizeOf, typeInfo, hi, Builtin.lenOf, Builtin.firstCells, h1]
      let p : Pl := ⟨true, false, ver + 1, none, 1, 0, 0, []⟩
      have hmv : Moves β (upd β id p) := fun j hj => by
        by_cases hji : j = id
        · subst hji
          rw [upd_same]
          exact .inr ⟨lT, rfl, rfl, by rw [hpv]; exact Nat.lt_succ_self _⟩
        · exact .inl (aB _ _ hji)
      refine ⟨_, w, upd β id p, hrun, hmv, hs.set (p := p) ho (fun _ => rfl) (.inr (.inl rfl)) (Keep.refl _ w) ⟨rfl, rfl, rfl⟩ hmv ?_, ?_, Keep.refl _ w⟩
      · simp only [Ob.Rel]
        exact ⟨rfl, rfl, rfl, rfl, hpos, by simp [p, aX], .inl ⟨rfl, by simp [aX], rfl⟩⟩
      · simp only [L.Rel, upd_same]
        refine ⟨rfl, rfl, Nat.le_refl _, _, rfl, rfl, fun _ => ?_⟩
        unfold bP
        simp only [p]
        exact ⟨trivial, trivial, trivial⟩
    · have hrun := run_append_nil_string (P := C.P) w st sx ty e i z hu hus hi hz ⟨s.toArray⟩ (by omega) (by omega) (by rw [hib, hss]; omega)
      have e1 : (s.toArray.map fun b : UInt8 => Value.int .u8 b.toNat) = (Lib.strCells ⟨s.toArray⟩).toArray := by
        apply Array.ext'
        simp [Lib.strCells]
      rw [hss] at hrun
      simp only [e1] at hrun
      have hge := grownCap_ge w s.length 0 e
      have hcm := grownCap_le_maxLen w s.length 0 e (by simp only [maxLen]; omega)
      have hk0 : Keep (fun _ _ => False) w (w.drew.alloc (.cells ((Lib.strCells ⟨s.toArray⟩).toArray ++ Builtin.zeroCells z.cells (grownCap w s.length 0 e - s.length)) e)) := (lG w).trans (aZ w.drew _)
      have hk1 := hk0.weaken (N' := fun k _ => (β id).blk = some k ∧ True) fun _ _ h => h.elim
      obtain ⟨β', h1, h2, h3⟩ := fin _ w.heap.size (grownCap w s.length 0 e) _ _ (.inl ⟨rfl, by simp⟩) hk1 ⟨rfl, rfl, rfl⟩ (heap_alloc_new w.drew _) (by simpa using kJ)
        (by rw [<- hcells]; simp only [Array.toList_append, List.length_nil, Nat.zero_add, Nat.mul_one]; rw [List.take_left' hfy])
        (by simp only [Array.size_append, List.size_toArray, size_zeroCells, hzs, hfy, his, hsz, Nat.mul_one]; omega) (by simpa using hge) hcm
      simp only [List.length_nil, Nat.zero_add] at h3
      exact ⟨_, _, β', hrun, h1, h2, h3, toK hk1⟩
  · unfold bP at hx
    rw [hb] at hx
    obtain ⟨h1, o, rfl, h3⟩ := hx
    have ho0 : o = 0 := by
      rcases h3 with h3 | h3
      · simpa using h3
      · omega
    subst ho0
    rw [Nat.sub_zero]
    have hl := dQ hall
    have hcl : css.flatten.length = rows.length := by rw [aR css hl, <- hall.length]; simp [Ty.size]
    have htk : cur.toList.take rows.length = css.flatten := by simpa [Ty.size] using htake
    have hcs : cur.size = (β id).cap := by simpa [Ty.size] using hcap
    by_cases hr : rows.length + s.length <= (β id).cap
    ·
      have hrun := Lib.run_append_room_string (P := C.P) w st sx ty e i hu hus hi (by rw [his, hsz]) b rows.length (β id).cap cur hheap ⟨s.toArray⟩ (by rw [hss]; exact hr) (by rw [hss]; omega)
      rw [hss] at hrun
      have hk1 : Keep (fun k _ => (β id).blk = some k ∧ True) w (w.setRow b (cur.toList.take rows.length ++ Lib.strCells ⟨s.toArray⟩ ++ cur.toList.drop (rows.length + s.length)).toArray) := gV.weaken fun k _ hk => by subst hk; exact ⟨hb, trivial⟩
      obtain ⟨β', g1, g2, g3⟩ := fin _ b (β id).cap _ _ (.inr hb) hk1 nN (setRow_heap w b _ _ e _ hheap) (hall.append kJ)
        (by
          rw [htk, List.flatten_append, <- hcells]
          exact List.take_left' (by rw [List.length_append, hcl, hfy, Nat.mul_one]))
        (by
          simp only [List.size_toArray, List.length_append, List.length_take, List.length_drop, Array.length_toList, hfy]
          omega) hr hcm
      exact ⟨_, _, β', hrun, g1, g2, g3, toK hk1⟩
    ·
      have holds : ∀ j u, css.flatten[j]? = some u -> w.cell? ((⟨b, 0, none⟩ : Addr).add j) = some u := jR (by rw [<- htk]; exact (Cells.of_heap hheap).take _)
      have hrun := Lib.run_append_grow_string (P := C.P) w st sx ty e i z hu hus hi hz ⟨b, 0, none⟩ rows.length (β id).cap css.flatten (by rw [hcl, his, hsz, Nat.mul_one]) holds ⟨s.toArray⟩ (by omega) (by omega)
        (growslice_fits (by omega) (by rw [hib, hss]; exact hroom))
      rw [hss] at hrun
      have hge := grownCap_ge w (rows.length + s.length) (β id).cap e
      have hcm' := grownCap_le_maxLen w (rows.length + s.length) (β id).cap e (by simp only [maxLen]; omega)
      have hk0 : Keep (fun _ _ => False) w (w.drew.alloc (.cells (css.flatten.toArray ++ (Lib.strCells ⟨s.toArray⟩).toArray ++ Builtin.zeroCells z.cells (grownCap w (rows.length + s.length) (β id).cap e - (rows.length + s.length))) e)) := (lG w).trans (aZ w.drew _)
      have hk1 := hk0.weaken (N' := fun k _ => (β id).blk = some k ∧ True) fun _ _ h => h.elim
      obtain ⟨β', g1, g2, g3⟩ := fin _ w.heap.size (grownCap w (rows.length + s.length) (β id).cap e) _ _ (.inl ⟨rfl, by simp⟩) hk1 ⟨rfl, rfl, rfl⟩ (heap_alloc_new w.drew _) (hall.append kJ)
        (by
          simp only [Array.toList_append, List.flatten_append, <- hcells]
          exact List.take_left' (by rw [List.length_append, hcl, hfy, Nat.mul_one]))
        (by
          simp only [Array.size_append, List.size_toArray, size_zeroCells, hzs, hcl, hfy, his, hsz]
          omega) hge hcm'
      exact ⟨_, _, β', hrun, g1, g2, g3, toK hk1⟩
end
end Go.Dec
