/- Part of a proof over this seat: a library of my own, and what it says of this seat. No statement is proved here. -/
import Derived.Test.YthhbdkdofhhoeaaGreatDoorPartAA
import Derived.Laws.StructEq
import Derived.Laws.Strings
import Derived.Laws.Cells
import Derived.Laws.Slices
namespace Go.Dec
theorem aD.single {β : Nat -> Pl} {w : World} {N : Nat -> Prop} {l : L} {c : Value} (h : l.Rel β w N [c]) : aD β w N [l] [c] := ⟨[c], [], rfl, h, rfl⟩
def Il : Value -> L
 | .bool b => .val .bool b
 | .int k n => .val (.int k) n
 | .string s => .val .str s.data.toList
 | .pointer none => .jQ
 | .slice none 0 0 => .dD
 | .nilFunc => .val .opq .nilFunc
 | .map none => .val .opq (.map none)
 | .nilIface => .val .err false
 | .iface t v => .val .opq (.iface t v)
 | _ => .bad 1
theorem Qr {β : Nat -> Pl} {w : World} {N : Nat -> Prop} (v : Value) (h : v.oneCell' = true) : (Il v).Rel β w N [v] := by
 unfold Il
 split <;> simp only [L.Rel, Ty.Rel]
 case h_6 => exact ⟨trivial, rfl⟩
 case h_7 => exact ⟨trivial, rfl⟩
 case h_8 => exact ⟨_, rfl, .inr ⟨trivial, rfl⟩⟩
 case h_9 => exact ⟨trivial, rfl⟩
 case h_10 => exact ⟨rfl, by intro c hc; simp at hc; subst hc; exact h⟩
def ovl (σ : St) : Operand -> V
 | .tmp t => σ.r.getD t .bB
 | .const v => match v with
  | .agg _ | .tuple _ => .bB
  | v => .one (Il v)
 | .func f => .one (.clo f [])
 | .global _ => .bB
theorem aY {C : Ctx} {β : Nat -> Pl} {σ : St} {a : Act} {w : World} (h : Sim C β σ a w) (x : Operand) : (ovl σ x).Rel β w (C.N β σ.h) (a.eval x) := by
 cases x with
 | tmp t =>
  simp only [ovl, Act.eval, List.getD_eq_getElem?_getD]
  cases ht : σ.r[t]? with
  | none => simp [V.Rel]
  | some v => simpa using h.reg t v ht
 | const v =>
  simp only [ovl, Act.eval]
  split
  ·trivial
  ·trivial
  ·rename_i h1 h2
   exact Qr _ (by cases v <;> first | rfl | exact absurd rfl (h1 _) | exact absurd rfl (h2 _))
 | func f => simp only [ovl, Act.eval, V.Rel, L.Rel]; exact ⟨[], rfl, by simp only [L.bW]⟩
 | global g => trivial
def bJ (k : IntKind) (op : BinOp) (x y : Int) : Int :=
 let a := BitVec.ofInt k.bits x
 let b := BitVec.ofInt k.bits y
 match op with
 | .and => k.wrap (a &&& b).toNat
 | .or => k.wrap (a ||| b).toNat
 | .xor => k.wrap (a ^^^ b).toNat
 | .andNot => k.wrap (a &&& ~~~b).toNat
 | _ => 0
def Im (k : IntKind) (x y : Int) : Int := k.wrap (x * 2 ^ (min y.toNat k.bits))
def eP (k : IntKind) (x y : Int) : Int := x.fdiv (2 ^ (min y.toNat k.bits))
def aG : Nat := 4611686018427387904
def zJu (op : BinOp) (k : IntKind) (a b : Int) : Option (Bool × L) :=
 match op with
 | .add => some (true, .val (.int k) (k.wrap (a + b)))
 | .sub => some (true, .val (.int k) (k.wrap (a - b)))
 | .mul => some (true, .val (.int k) (k.wrap (a * b)))
 | .quo => some (!decide (b = 0), .val (.int k) (k.wrap (a.tdiv b)))
 | .rem => some (!decide (b = 0), .val (.int k) (a.tmod b))
 | .and => some (true, .val (.int k) (bJ k .and a b))
 | .or => some (true, .val (.int k) (bJ k .or a b))
 | .xor => some (true, .val (.int k) (bJ k .xor a b))
 | .andNot => some (true, .val (.int k) (bJ k .andNot a b))
 | .eql => some (true, .val .bool (a == b))
 | .neq => some (true, .val .bool (a != b))
 | .lss => some (true, .val .bool (decide (a < b)))
 | .leq => some (true, .val .bool (decide (a <= b)))
 | .gtr => some (true, .val .bool (decide (a > b)))
 | .geq => some (true, .val .bool (decide (a ≥ b)))
 | _ => none
def Yz (op : BinOp) (k : IntKind) (a b : Int) : Option (Bool × L) :=
 match op with
 | .shl => some (decide (0 <= b), .val (.int k) (Im k a b))
 | .shr => some (decide (0 <= b), .val (.int k) (eP k a b))
 | _ => none
def zJv (op : BinOp) (a b : List UInt8) : Option (Bool × L) :=
 match op with
 | .add => some (decide (a.length + b.length <= aG), .val .str (a ++ b))
 | .eql => some (true, .val .bool (a == b))
 | .neq => some (true, .val .bool (!(a == b)))
 | .lss => some (true, .val .bool (Op.bytesLess a b))
 | .leq => some (true, .val .bool (Op.bytesLess a b || a == b))
 | .gtr => some (true, .val .bool (!(Op.bytesLess a b || a == b)))
 | .geq => some (true, .val .bool (!Op.bytesLess a b))
 | _ => none
def Yg (op : BinOp) (a b : Bool) : Option (Bool × L) :=
 match op with
 | .eql => some (true, .val .bool (a == b))
 | .neq => some (true, .val .bool (!(a == b)))
 | _ => none
def Ul : BinOp -> Bool
 | .shl | .shr => true
 | _ => false
def bin (op : BinOp) (x y : L) : Option (Bool × L) :=
 match x, y with
 | .val (.int k) a, .val (.int k') b => if Ul op then Yz op k a b else if k = k' then zJu op k a b else none
 | .val .str a, .val .str b => zJv op a b
 | .val .bool a, .val .bool b => Yg op a b
 | _, _ => none
theorem toList_mk (l : List UInt8) : (ByteArray.mk l.toArray).toList = l := by
 rw [ByteArray.toList_eq]
theorem size_mk (l : List UInt8) : (ByteArray.mk l.toArray).size = l.length := by
 simp [ByteArray.size]
theorem zHm (a b : List UInt8) : (ByteArray.mk a.toArray) ++ (ByteArray.mk b.toArray) = ByteArray.mk (a ++ b).toArray := by
 apply ByteArray.ext
 simp
section run
variable {P : Program} {β : Nat -> Pl} {w : World} {N : Nat -> Prop}
theorem zJw {op : BinOp} {k : IntKind} {a b : Int} {l : L} (xt : TypeId) (hs : Ul op = false) (h : zJu op k a b = some (true, l)) :
    ∃ v, (binOp op xt (.int k a) (.int k b)).run P w = .ok v w ∧ l.Rel β w N [v] := by
  cases op <;> simp only [zJu, Option.some.injEq, Prod.mk.injEq, reduceCtorEq, Ul] at h hs <;> (try cases hs) <;> obtain ⟨h0, rfl⟩ := h <;>
    simp only [binOp, ne_eq, not_true_eq_false, if_false, Op.intArith, Op.intBits, Op.intCmp, Op.intDiv, Sem.run_pure] <;> first
    | exact ⟨_, rfl, by simp only [L.Rel, Ty.Rel, bJ]⟩
    | (have hb : ¬ b = 0 := by simpa using h0
       simp only [hb, if_false, Sem.run_pure]
       exact ⟨_, rfl, by simp only [L.Rel, Ty.Rel]⟩)
theorem zEo {op : BinOp} {k k' : IntKind} {a b : Int} {l : L} (xt : TypeId) (h : Yz op k a b = some (true, l)) :
    ∃ v, (binOp op xt (.int k a) (.int k' b)).run P w = .ok v w ∧ l.Rel β w N [v] := by
  cases op <;> simp only [Yz, Option.some.injEq, Prod.mk.injEq, reduceCtorEq] at h <;> obtain ⟨h0, rfl⟩ := h <;>
    (have hb : ¬ b < 0 := by have := of_decide_eq_true h0; omega
     simp only [binOp, Op.shift, hb, if_false, Sem.run_pure]
     exact ⟨_, rfl, by simp only [L.Rel, Ty.Rel, Im, eP]⟩)
theorem zJx {op : BinOp} {a b : List UInt8} {l : L} (xt : TypeId) (h : zJv op a b = some (true, l)) :
    ∃ v, (binOp op xt (.string ⟨a.toArray⟩) (.string ⟨b.toArray⟩)).run P w = .ok v w ∧ l.Rel β w N [v] := by
  cases op <;> simp only [zJv, Option.some.injEq, Prod.mk.injEq, reduceCtorEq] at h <;> obtain ⟨h0, rfl⟩ := h <;>
    simp only [binOp, Op.stringOp, toList_mk, size_mk, zHm, Sem.run_pure] <;> first
    | exact ⟨_, rfl, by simp only [L.Rel, Ty.Rel]⟩
    | (have hb : ¬ (((a.length + b.length : Nat) : Int) > IntKind.i64.max) := by
         have := of_decide_eq_true h0
         simp only [aG] at this
         simp only [IntKind.max, IntKind.signed, IntKind.bits]
         omega
       simp only [hb, if_false, Sem.run_pure]
       exact ⟨_, rfl, by simp only [L.Rel, Ty.Rel]⟩)
theorem zHn {op : BinOp} {a b : Bool} {l : L} (xt : TypeId) (ht : P.underlying xt = some .bool) (h : Yg op a b = some (true, l)) :
    ∃ v, (binOp op xt (.bool a) (.bool b)).run P w = .ok v w ∧ l.Rel β w N [v] := by
  cases op <;> simp only [Yg, Option.some.injEq, Prod.mk.injEq, reduceCtorEq] at h <;> obtain ⟨h0, rfl⟩ := h <;>
    (simp only [binOp, Op.equal, Op.maxDepth, Sem.run_bind, run_equalIn_bool' w _ xt a b ht, Result.andThen_ok, Sem.run_pure]
     exact ⟨_, rfl, by simp only [L.Rel, Ty.Rel]⟩)
end run
end Go.Dec
namespace Go.Dec
def iZ : List L -> Nat -> Option (List L × List L)
 | ls, 0 => some ([], ls)
 | [], _ + 1 => none
 | l :: r, n + 1 => if l.size <= n + 1 then (iZ r (n + 1 - l.size)).map fun p => (l :: p.1, p.2) else none
section split
variable {β : Nat -> Pl} {w : World} {N : Nat -> Prop}
theorem mJ : ∀ {ls : List L} {n : Nat} {a b : List L} {cs : List Value}, iZ ls n = some (a, b) -> aD β w N ls cs ->
  aD β w N a (cs.take n) ∧ aD β w N b (cs.drop n) ∧ n <= cs.length
 | ls, 0, a, b, cs, h, hr => by
  have : iZ ls 0 = some ([], ls) := by cases ls <;> rfl
  rw [this] at h
  simp only [Option.some.injEq, Prod.mk.injEq] at h
  obtain ⟨rfl, rfl⟩ := h
  simpa [aD] using hr
 | [], _ + 1, _, _, _, h, _ => by simp [iZ] at h
 | l :: r, n + 1, a, b, cs, h, hr => by
  simp only [iZ] at h
  split at h
  ·rename_i hle
   obtain ⟨c1, c2, rfl, h1, h2⟩ := hr
   cases hs : iZ r (n + 1 - l.size) with
   | none => rw [hs] at h; cases h
   | some p =>
    rw [hs] at h
    simp only [Option.map_some, Option.some.injEq, Prod.mk.injEq] at h
    obtain ⟨rfl, rfl⟩ := h
    obtain ⟨g1, g2, g3⟩ := mJ (a := p.1) (b := p.2) hs h2
    have hl := h1.length
    refine ⟨?_, ?_, ?_⟩
    ·rw [List.take_append, hl, List.take_of_length_le (by omega)]
     exact ⟨c1, _, rfl, h1, g1⟩
    ·rw [List.drop_append, hl, List.drop_of_length_le (by omega), List.nil_append]
     exact g2
    ·rw [List.length_append]; omega
  ·cases h
def xC (ls : List L) (off size : Nat) : Option (List L) :=
 match iZ ls off with
 | some (_, b) => (iZ b size).map (·.1)
 | none => none
theorem qG {ls c : List L} {off size : Nat} {cs : List Value} (h : xC ls off size = some c) (hr : aD β w N ls cs) :
  aD β w N c ((cs.drop off).take size) ∧ off + size <= cs.length := by
 unfold xC at h
 split at h
 ·rename_i a b hs
  cases ht : iZ b size with
  | none => rw [ht] at h; cases h
  | some p =>
   rw [ht] at h
   simp only [Option.map_some, Option.some.injEq] at h
   subst h
   obtain ⟨_, g2, g3⟩ := mJ hs hr
   obtain ⟨k1, _, k3⟩ := mJ (a := p.1) (b := p.2) ht g2
   rw [List.length_drop] at k3
   exact ⟨k1, by omega⟩
 ·cases h
def yG (ls : List L) (off : Nat) (new : List L) : Option (List L) :=
 match iZ ls off with
 | some (a, b) => (iZ b (sizes new)).map fun p => a ++ (new ++ p.2)
 | none => none
theorem Io {ls new ls' : List L} {off : Nat} {cs ds : List Value} (h : yG ls off new = some ls') (hr : aD β w N ls cs) (hd : aD β w N new ds) :
  aD β w N ls' (cs.take off ++ (ds ++ cs.drop (off + ds.length))) ∧ off + ds.length <= cs.length := by
 unfold yG at h
 split at h
 ·rename_i a b hs
  cases ht : iZ b (sizes new) with
  | none => rw [ht] at h; cases h
  | some p =>
   rw [ht] at h
   simp only [Option.map_some, Option.some.injEq] at h
   subst h
   obtain ⟨g1, g2, g3⟩ := mJ hs hr
   obtain ⟨_, k2, k3⟩ := mJ (a := p.1) (b := p.2) ht g2
   have hl := hd.length
   rw [List.length_drop] at k3
   rw [List.drop_drop] at k2
   refine ⟨g1.append (hd.append ?_), by omega⟩
   rw [hl]
   exact k2
 ·cases h
end split
inductive TK where
 | bool | int (k : IntKind) | str | slice (e : TypeId) | arr (n : Nat) (e : TypeId) | struct (fs : List (Nat × TypeId)) | ptr (e : TypeId) | func | iface (empty : Bool) | map (k e : TypeId) | other
def TK.of : TypeDesc -> TK
 | .bool => .bool
 | .int k => .int k
 | .string => .str
 | .slice e => .slice e
 | .array n e => .arr n e
 | .struct fs => .struct (fs.toList.map fun f => (f.offset, f.type))
 | .pointer e => .ptr e
 | .func .. => .func
 | .interface ms => .iface ms.isEmpty
 | .map k e => .map k e
 | _ => .other
def TK.isAgg : TK -> Bool
 | .arr .. | .struct _ => true
 | _ => false
structure TI where
 k : TK
 size : Nat
 bytes : Nat
 zls : List L
 ty : Option Ty
 eqs : Bool
def dR (P : Program) : Nat -> TypeId -> Option Ty
 | 0, _ => none
 | n + 1, t =>
  match P.underlying t with
  | some .bool => some .bool
  | some (.int k) => some (.int k)
  | some .string => some .str
  | some (.slice e) => (dR P n e).map .slice
  | some (.array k e) => (dR P n e).map (.arr k)
  | some (.struct fs) => fs.toList.foldr (fun f r => match dR P n f.type, r with | some a, some b => some (.pair a b) | _, _ => none) (some .unit)
  | some (.interface _) => some .err
  | some (.func ..) => some .opq
  | _ => none
def pG (P : Program) : Nat -> TypeId -> List Value -> Option (List L × List Value)
 | 0, _, _ => none
 | n + 1, t, cs =>
  match P.underlying t with
  | some (.struct fs) => fs.toList.foldl (fun r f => match r with | some (ls, cs) => (pG P n f.type cs).map fun p => (ls ++ p.1, p.2) | none => none) (some ([], cs))
  | some (.array k e) =>
   match dR P n e, (List.range k).foldl (fun r _ => match r with | some (ls, cs) => (pG P n e cs).map fun p => (ls ++ [p.1], p.2) | none => none) (some ([], cs)) with
   | some te, some (lss, cs) =>
    match lss.foldr (fun ls r => match bZ te ls, r with | some (x, []), some xs => some (x :: xs) | _, _ => none) (some ([] : List te.den)) with
    | some xs => if xs.length = k then some ([.val (.arr k te) xs], cs) else none
    | none => none
   | _, _ => none
  | some (.slice _) =>
   match cs with
   | .slice none 0 0 :: cs => some ([.dD], cs)
   | _ => none
  | _ => match cs with
   | c :: cs => if c.oneCell' then some ([Il c], cs) else none
   | [] => none
def zOK (ls : List L) (cs : List Value) : Prop := ∀ (β : Nat -> Pl) (w : World) (N : Nat -> Prop), aD β w N ls cs
theorem zOK.append {a b : List L} {c d : List Value} (h : zOK a c) (h' : zOK b d) : zOK (a ++ b) (c ++ d) := fun β w N => (h β w N).append (h' β w N)
theorem Ip {P : Program} {n : Nat} (ih : ∀ t cs ls cs', pG P n t cs = some (ls, cs') -> ∃ c1, cs = c1 ++ cs' ∧ zOK ls c1) : ∀ (fs : List Field) (ls0 : List L) (cs0 ca : List Value) (ls : List L) (cs' : List Value),
  zOK ls0 ca -> fs.foldl (fun r f => match r with | some (ls, cs) => (pG P n f.type cs).map fun p => (ls ++ p.1, p.2) | none => none) (some (ls0, cs0)) = some (ls, cs') ->
  ∃ c1, cs0 = c1 ++ cs' ∧ zOK ls (ca ++ c1)
 | [], ls0, cs0, ca, ls, cs', h0, h => by
  simp only [List.foldl_nil, Option.some.injEq, Prod.mk.injEq] at h
  obtain ⟨rfl, rfl⟩ := h
  exact ⟨[], rfl, by simpa using h0⟩
 | f :: fs, ls0, cs0, ca, ls, cs', h0, h => by
  simp only [List.foldl_cons] at h
  cases hz : pG P n f.type cs0 with
  | none =>
   rw [hz] at h
   simp only [Option.map_none] at h
   have : ∀ fs : List Field, fs.foldl (fun (r : Option (List L × List Value)) f => match r with | some (ls, cs) => (pG P n f.type cs).map fun p => (ls ++ p.1, p.2) | none => none) none = none := by
    intro fs; induction fs with
    | nil => rfl
    | cons f fs ih => simpa using ih
   rw [this] at h; cases h
  | some p =>
   rw [hz] at h
   simp only [Option.map_some] at h
   obtain ⟨c1, e, hz1⟩ := ih _ _ p.1 p.2 hz
   obtain ⟨c2, e2, hz2⟩ := Ip ih fs (ls0 ++ p.1) p.2 (ca ++ c1) ls cs' (h0.append hz1) h
   exact ⟨c1 ++ c2, by rw [e, e2, List.append_assoc], by rwa [List.append_assoc] at hz2⟩
theorem Vq {P : Program} {n : Nat} {e : TypeId} (ih : ∀ t cs ls cs', pG P n t cs = some (ls, cs') -> ∃ c1, cs = c1 ++ cs' ∧ zOK ls c1) : ∀ (k : List Nat) (ls0 : List (List L)) (cs0 : List Value) (Za : List (List Value)) (lss : List (List L)) (cs' : List Value),
  aS zOK ls0 Za -> k.foldl (fun r _ => match r with | some (ls, cs) => (pG P n e cs).map fun p => (ls ++ [p.1], p.2) | none => none) (some (ls0, cs0)) = some (lss, cs') ->
  ∃ css, cs0 = css.flatten ++ cs' ∧ aS zOK lss (Za ++ css)
 | [], ls0, cs0, Za, lss, cs', h0, h => by
  simp only [List.foldl_nil, Option.some.injEq, Prod.mk.injEq] at h
  obtain ⟨rfl, rfl⟩ := h
  exact ⟨[], rfl, by simpa using h0⟩
 | k0 :: k, ls0, cs0, Za, lss, cs', h0, h => by
  simp only [List.foldl_cons] at h
  cases hz : pG P n e cs0 with
  | none =>
   rw [hz] at h
   simp only [Option.map_none] at h
   have : ∀ k : List Nat, k.foldl (fun (r : Option (List (List L) × List Value)) _ => match r with | some (ls, cs) => (pG P n e cs).map fun p => (ls ++ [p.1], p.2) | none => none) none = none := by
    intro k; induction k with
    | nil => rfl
    | cons f fs ih => simpa using ih
   rw [this] at h; cases h
  | some p =>
   rw [hz] at h
   simp only [Option.map_some] at h
   obtain ⟨c1, e1, hz1⟩ := ih _ _ p.1 p.2 hz
   obtain ⟨css, e2, hz2⟩ := Vq ih k (ls0 ++ [p.1]) p.2 (Za ++ [c1]) lss cs' (h0.append ⟨hz1, trivial⟩) h
   exact ⟨c1 :: css, by rw [e1, e2]; simp, by simpa using hz2⟩
theorem Nn {te : Ty} : ∀ (lss : List (List L)) (css : List (List Value)) (xs : List te.den), aS zOK lss css ->
  lss.foldr (fun ls r => match bZ te ls, r with | some (x, []), some xs => some (x :: xs) | _, _ => none) (some ([] : List te.den)) = some xs ->
  ∀ (w : World) (N : Nat -> Prop), aS (fun x c => te.Rel w N x c) xs css
 | [], [], xs, _, h, w, N => by simp at h; subst h; trivial
 | ls :: lss, cs :: css, xs, hz, h, w, N => by
  simp only [List.foldr_cons] at h
  split at h
  ·rename_i _ x0 xs0 hi hf
   simp only [Option.some.injEq] at h
   subst h
   obtain ⟨c1, c2, e, h1, h2⟩ := oL (β := fun _ => ⟨false, false, 0, none, 0, 0, 0⟩) (w := w) (N := N) hi (hz.1 _ _ _)
   simp only [aD] at h2
   subst h2
   rw [List.append_nil] at e
   subst e
   exact ⟨h1, Nn lss css xs0 hz.2 hf w N⟩
  ·cases h
theorem Oq {P : Program} : ∀ (n : Nat) (t : TypeId) (cs : List Value) (ls : List L) (cs' : List Value), pG P n t cs = some (ls, cs') -> ∃ c1, cs = c1 ++ cs' ∧ zOK ls c1
 | 0, _, _, _, _, h => by simp [pG] at h
 | n + 1, t, cs, ls, cs', h => by
  simp only [pG] at h
  split at h
  ·rename_i fs hu
   obtain ⟨c1, e, hz⟩ := Ip (Oq n) fs.toList [] cs [] ls cs' (fun _ _ _ => rfl) h
   exact ⟨c1, e, by simpa using hz⟩
  ·rename_i k e hu
   split at h
   ·rename_i _ te lss cs1 hte hf
    split at h
    ·rename_i xs hxs
     split at h
     ·rename_i hlen
      simp only [Option.some.injEq, Prod.mk.injEq] at h
      obtain ⟨rfl, rfl⟩ := h
      obtain ⟨css, e1, hz⟩ := Vq (Oq n) (List.range k) [] cs [] lss cs1 trivial hf
      refine ⟨css.flatten, e1, fun β w N => ⟨_, [], (List.append_nil _).symm, ?_, rfl⟩⟩
      simp only [L.Rel, Ty.Rel]
      exact ⟨hlen, css, rfl, Nn lss css xs (by simpa using hz) hxs w N⟩
     ·cases h
    ·cases h
   ·cases h
  ·split at h
   ·simp only [Option.some.injEq, Prod.mk.injEq] at h
    obtain ⟨rfl, rfl⟩ := h
    exact ⟨[.slice none 0 0], rfl, fun β w N => aD.single (by simp only [L.Rel])⟩
   ·cases h
  ·split at h
   ·rename_i c cs1
    split at h
    ·rename_i ho
     simp only [Option.some.injEq, Prod.mk.injEq] at h
     obtain ⟨rfl, rfl⟩ := h
     exact ⟨[c], rfl, fun β w N => aD.single (Qr c ho)⟩
    ·cases h
   ·cases h
def eqF (P : Program) (g : TypeId -> Bool) (h : TypeId -> Option Ty) : Nat -> List Field -> Bool
 | _, [] => true
 | off, f :: fs => f.offset == off && !(f.name == "_") && g f.type && (match h f.type with | some a => a.size == P.cellsOf f.type | none => false) && eqF P g h (off + P.cellsOf f.type) fs
def Bn (P : Program) : Nat -> TypeId -> Bool
 | 0, _ => false
 | n + 1, t =>
  match P.underlying t with
  | some .bool | some (.int _) | some .string => true
  | some (.struct fs) => !P.stoodInHeld t && eqF P (Bn P n) (dR P n) 0 fs.toList
  | some (.array _ e) => Bn P n e && (match dR P n e with | some a => a.size == P.cellsOf e | none => false)
  | _ => false
def Qs : Value -> Bool
 | .agg _ => true
 | _ => false
def zJy (P : Program) (t : TypeId) : Option TI :=
 match P.info? t, P.underlying t with
 | some i, some d =>
  match i.zero with
  | some z =>
   match pG P 12 t z.cells.toList with
   | some (ls, []) =>
    if (TK.of d).isAgg == Qs z && z.cells.size == i.size then
     some { k := TK.of d, size := i.size, bytes := i.bytes, zls := ls, ty := dR P 12 t, eqs := (TK.of d).isAgg && (!P.eqGuardType P.depth t && Bn P 12 t) }
    else none
   | _ => none
  | none => none
 | _, _ => none
structure jE (P : Program) (t : TypeId) (ti : TI) : Prop where
 i : ∃ (i : TypeInfo) (z : Value), P.info? t = some i ∧ i.size = ti.size ∧ i.bytes = ti.bytes ∧ i.zero = some z ∧ zOK ti.zls z.cells.toList ∧ z.cells.size = i.size ∧ ti.k.isAgg = Qs z
 und : ∃ d, P.underlying t = some d ∧ TK.of d = ti.k
 ty : dR P 12 t = ti.ty
 eqs : ti.eqs = true -> P.eqGuardType P.depth t = false ∧ Bn P 12 t = true
theorem zNe {P : Program} {t : TypeId} {ti : TI} (h : zJy P t = some ti) : jE P t ti := by
 unfold zJy at h
 split at h
 ·rename_i i d hi hd
  split at h
  ·rename_i z hz
   split at h
   ·rename_i ls hls
    split at h
    ·rename_i hc
     simp only [Option.some.injEq] at h
     subst h
     rw [Bool.and_eq_true] at hc
     obtain ⟨c1, e, hok⟩ := Oq _ _ _ _ _ hls
     rw [List.append_nil] at e
     refine ⟨⟨i, z, hi, rfl, rfl, hz, ?_, by simpa using hc.2, by simpa using hc.1⟩, ⟨d, hd, rfl⟩, rfl, fun h => by simp at h; exact h.2⟩
     rw [e]; exact hok
    ·cases h
   ·cases h
  ·cases h
 ·cases h
abbrev Tab := List (TypeId × TI)
def Tab.get : Tab -> TypeId -> Option TI
 | [], _ => none
 | p :: r, t => if Nat.beq p.1 t then some p.2 else Tab.get r t
def bI (P : Program) (T : Tab) : Prop := ∀ t ti, T.get t = some ti -> jE P t ti
theorem Zb {P : Program} : ∀ {T : Tab}, (T.map fun p => zJy P p.1) = T.map (fun p => some p.2) -> bI P T
 | [], _, _, _, h => by simp [Tab.get] at h
 | p :: r, h, t, ti, ht => by
  simp only [List.map_cons, List.cons.injEq] at h
  simp only [Tab.get] at ht
  split at ht
  ·rename_i hb
   have : p.1 = t := Nat.eq_of_beq_eq_true hb
   subst this
   simp only [Option.some.injEq] at ht
   subst ht
   exact zNe h.1
  ·exact Zb h.2 t ti ht
end Go.Dec
namespace Go.Dec
def V.leaves : V -> Option (List L)
 | .one l => some [l]
 | .agg ls => some ls
 | _ => none
theorem V.uD {β : Nat -> Pl} {w : World} {N : Nat -> Prop} {v : V} {ls : List L} {x : Value} (h : v.leaves = some ls) (hr : v.Rel β w N x) : aD β w N ls x.cells.toList := by
 cases v with
 | one l =>
  simp only [V.leaves, Option.some.injEq] at h
  subst h
  have h1 := L.Rel.one hr x (by simp)
  have : x.cells = #[x] := by cases x <;> first | rfl | simp [Value.oneCell'] at h1
  rw [this]
  exact aD.single hr
 | agg l =>
  simp only [V.leaves, Option.some.injEq] at h
  subst h
  obtain ⟨cs, rfl, hr⟩ := hr
  exact hr
 | _ => simp [V.leaves] at h
def mkV (agg : Bool) (ls : List L) : Option V :=
 match agg, ls with
 | true, ls => some (.agg ls)
 | false, [l] => some (.one l)
 | _, _ => none
def un (op : UnOp) (x : L) : Option (Bool × L) :=
 match op, x with
 | .not, .val .bool b => some (true, .val .bool (!b))
 | .neg, .val (.int k) n => some (true, .val (.int k) (k.wrap (0 - n)))
 | _, _ => none
def inB (i : Int) (n : Nat) : Bool := decide (0 <= i) && decide (i < (n : Int))
theorem vL {i : Int} {n : Nat} (h : inB i n = true) : 0 <= i ∧ i < (n : Int) ∧ i.toNat < n := by
 unfold inB at h
 rw [Bool.and_eq_true] at h
 have h1 := of_decide_eq_true h.1
 have h2 := of_decide_eq_true h.2
 exact ⟨h1, h2, by omega⟩
def bA {α : Type} (d : α) (xs : List α) (i : Int) : α := xs.getD i.toNat d
def conv (kd : TK) (ks : TK) (x : L) : Option (Bool × L) :=
 match kd, ks, x with
 | .int k, _, .val (.int _) n => some (true, .val (.int k) (k.wrap n))
 | .str, .str, .val .str s => some (true, .val .str s)
 | .str, .slice _, .val (.slice (.int .u8)) xs => some (true, .val .str (xs.map fun n => UInt8.ofNat n.toNat))
 | _, _, _ => none
def zR (h : List Ob) (l : L) (off : Nat) : Option (Bool × L) :=
 match l with
 | .ptr id o => some (true, .ptr id (o + off))
 | .jD id o es i sub => some (true, .jD id o es i (sub + off))
 | .eY id ver i o =>
  match h[id]? with
  | some (.arr _ _ v _ _) => some (Nat.beq v ver, .eY id ver i (o + off))
  | _ => none
 | .iK t x o => some (true, .iK t x (o + off))
 | _ => none
def L.view (h : List Ob) : L -> L
 | .own id ver =>
  match h[id]? with
  | some (.arr _ _ _ rows _) => .sl id ver 0 rows.length
  | _ => .bad 1
 | l => l
def zMk (h : List Ob) : L -> Option (Bool × Int)
 | .val (.slice _) xs => some (true, (xs.length : Int))
 | .dD => some (true, 0)
 | .sl id ver _ len =>
  match h[id]? with
  | some (.arr _ _ v _ _) => some (Nat.beq v ver, (len : Int))
  | _ => none
 | _ => none
def Dr (T : Tab) (h : List Ob) (k : TK) (x : L) (i : Int) : Option (Bool × L) :=
 match k, x with
 | .slice e, .val (.slice te) xs =>
  match T.get e with
  | some ti => if ti.size = te.size then some (inB i xs.length, .iK te (bA te.dflt xs i) 0) else none
  | none => none
 | .slice e, .sl id ver off len =>
  match h[id]?, T.get e with
  | some (.arr _ t v rows _), some ti => if ti.size = t.size then some (Nat.beq v ver && inB i len && decide (off + len <= rows.length), .eY id ver (off + i.toNat) 0) else none
  | _, _ => none
 | .arr n e, .ptr id off =>
  match T.get e with
  | some ti => some (inB i n, .jD id off ti.size i.toNat 0)
  | none => none
 | .arr n e, .iK t0 x0 off =>
  match T.get e with
  | some ti =>
   match xC (explode t0 x0) off (n * ti.size) with
   | some [.val (.arr m te) xs] => if m = n ∧ ti.size = te.size then some (inB i n, .iK te (bA te.dflt xs i) 0) else none
   | _ => none
  | none => none
 | _, _ => none
def loadAt (T : Tab) (h : List Ob) (t : TypeId) (x : L) : Option (Bool × V) :=
 match T.get t with
 | none => none
 | some ti =>
  match x with
  | .ptr id off =>
   match h[id]? with
   | some (.box _ ls) =>
    match xC ls off ti.size with
    | some c => (mkV ti.k.isAgg c).map fun v => (true, v)
    | none => none
   | _ => none
  | .jD id off es i sub =>
   match h[id]? with
   | some (.box _ ls) =>
    match iZ ls off with
    | some (_, .val (.arr n te) xs :: _) =>
     if te.size = es then
      match xC (explode te (xs.getD i te.dflt)) sub ti.size with
      | some c => (mkV ti.k.isAgg c).map fun v => (decide (i < n), v)
      | none => none
     else none
    | _ => none
   | _ => none
  | .eY id ver i off =>
   match h[id]? with
   | some (.arr _ te v rows _) =>
    match xC (explode te (rows.getD i te.dflt)) off ti.size with
    | some c => (mkV ti.k.isAgg c).map fun u => (Nat.beq v ver && decide (i < rows.length), u)
    | none => none
   | _ => none
  | .iK te y off =>
   match xC (explode te y) off ti.size with
   | some c => (mkV ti.k.isAgg c).map fun v => (true, v)
   | none => none
  | _ => none
def idx (x : V) (i : Int) : Option (Bool × V) :=
 match x with
 | .one (.val .str s) => some (inB i s.length, .one (.val (.int .u8) ((bA 0 s i).toNat : Int)))
 | _ => none
def bounds (n : Nat) (lo hi : Option Int) : Bool × Nat × Nat :=
 match lo, hi with
 | none, none => (true, 0, n)
 | some l, none => (decide (0 <= l) && decide (l <= (n : Int)), l.toNat, n)
 | none, some h => (decide (0 <= h) && decide (h <= (n : Int)), 0, h.toNat)
 | some l, some h => (decide (0 <= h) && decide (h <= (n : Int)) && (decide (0 <= l) && decide (l <= h)), l.toNat, h.toNat)
def cut {α : Type} (xs : List α) (lo hi : Option Int) : List α :=
 match lo, hi with
 | none, none => xs
 | some l, none => xs.drop l.toNat
 | none, some h => xs.take h.toNat
 | some l, some h => (xs.take h.toNat).drop l.toNat
def slice (k : TK) (x : L) (lo hi : Option Int) (hp : List Ob) : Option (Bool × L) :=
 match k, x with
 | .str, .val .str s => some ((bounds s.length lo hi).1, .val .str (cut s lo hi))
 | .slice _, .val (.slice te) xs => some ((bounds xs.length lo hi).1, .val (.slice te) (cut xs lo hi))
 | .slice _, .sl id ver off len =>
  match hp[id]? with
  | some (.arr _ _ v _ _) => some (Nat.beq v ver && (bounds len lo hi).1, .sl id ver (off + (bounds len lo hi).2.1) ((bounds len lo hi).2.2 - (bounds len lo hi).2.1))
  | _ => none
 | _, _ => none
def build (T : Tab) (fs : List (Nat × TypeId)) : List L -> List (Nat × V) -> Option (List L)
 | ls, [] => some ls
 | ls, (i, v) :: r =>
  match fs[i]?, v.leaves with
  | some (off, ft), some new =>
   match T.get ft with
   | some ti => if sizes new = ti.size then
     match yG ls off new with
     | some ls' => build T fs ls' r
     | none => none
    else none
   | none => none
  | _, _ => none
def ext (x : V) (i : Nat) : Option V :=
 match x with
 | .tup vs =>
  match vs[i]? with
  | some (.inl l) => some (.one l)
  | some (.inr ls) => some (.agg ls)
  | none => none
 | _ => none
def oI : V -> Option (IntKind × Int)
 | .one (.val (.int k) n) => some (k, n)
 | _ => none
def lK (σ : St) : Option Operand -> Option (Option Int)
 | none => some none
 | some x => match oI (ovl σ x) with | some (_, n) => some (some n) | none => none
def caps (σ : St) : List Operand -> Option (List L)
 | [] => some []
 | x :: r =>
  match ovl σ x, caps σ r with
  | .one l, some ls => some (l :: ls)
  | _, _ => none
end Go.Dec
