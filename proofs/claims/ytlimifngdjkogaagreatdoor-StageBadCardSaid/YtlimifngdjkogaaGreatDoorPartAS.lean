/- Part of a proof over this seat: a library of my own, and what it says of this seat. No statement is proved here. -/
import Derived.Test.YtlimifngdjkogaaGreatDoorPartAR
import Derived.Test.YtlimifngdjkogaaGreatDoorPartAD
import Derived.Orders
namespace Go.Ce
inductive CK where
 | bool | int (k : IntKind) | float (k : FloatKind) | complex (k : FloatKind) | str | slice (e : TypeId) | arr (n : Nat) (e : TypeId) | struct (fs : List (Nat × TypeId)) | ptr (e : TypeId) | func | iface | map (k e : TypeId) | other
def CK.of : TypeDesc -> CK
 | .bool => .bool
 | .int k => .int k
 | .float k => .float k
 | .complex k => .complex k
 | .string => .str
 | .slice e => .slice e
 | .array n e => .arr n e
 | .struct fs => .struct (fs.toList.map fun f => (f.offset, f.type))
 | .pointer e => .ptr e
 | .func .. => .func
 | .interface _ => .iface
 | .map k e => .map k e
 | _ => .other
def CK.isAgg : CK -> Bool
 | .arr .. | .struct _ => true
 | _ => false
structure CI where
 k : CK
 size : Nat
 bytes : Nat
 zero : List AV
 eqs : Option Dec.Ty
def Wx : Value -> Option AV
 | .bool b => some (.bo b)
 | .int k n => some (.it k n)
 | .float k b => some (.fl k b)
 | .complex k x y => some (.cx k x y)
 | .string ba => some (.st (ba.data.toList.map UInt8.toNat))
 | .pointer none => some .np
 | .slice none 0 0 => some .ns
 | .map none => some .nm
 | .nilFunc => some .nf
 | .nilIface => some .ni
 | _ => none
def Aw : List Value -> Option (List AV)
 | [] => some []
 | v :: r => match Wx v, Aw r with
  | some a, some l => some (a :: l)
  | _, _ => none
def jH : Value -> Bool
 | .agg _ => true
 | _ => false
def zBy (P : Program) (t : TypeId) (k : CK) : Option Dec.Ty :=
 cnd (k.isAgg && (!P.eqGuardType P.depth t && Dec.pY P 12 t)) (match Dec.bB P 12 t with | some ty => cnd ty.cmp (some ty) none | none => none) none
def zBz (P : Program) (t : TypeId) : Option CI :=
 match P.info? t, P.underlying t with
 | some i, some d =>
  match i.zero with
  | some z =>
   match Aw z.cells.toList with
   | some ls => cnd ((CK.of d).isAgg == jH z && z.cells.size == i.size) (some { k := CK.of d, size := i.size, bytes := i.bytes, zero := ls, eqs := zBy P t (CK.of d) }) none
   | none => none
  | none => none
 | _, _ => none
def fN {α : Type} (n : Nat) (f : Nat -> α) : α := @Nat.rec (fun _ => α) (f 0) (fun m _ => f (m + 1)) n
theorem bR {α : Type} (n : Nat) (f : Nat -> α) : fN n f = f n := by cases n <;> rfl
def fI {α : Type} (n : Int) (f : Int -> α) : α := match n with
 | .ofNat m => fN m fun m => f (.ofNat m)
 | .negSucc m => fN m fun m => f (.negSucc m)
theorem zIi {α : Type} (n : Int) (f : Int -> α) : fI n f = f n := by cases n <;> simp [fI, bR]
def fL {α : Type} : List Nat -> (List Nat -> α) -> α
 | [], f => f []
 | a :: r, f => fN a fun a => fL r fun r => f (a :: r)
theorem Ml {α : Type} : ∀ (l : List Nat) (f : List Nat -> α), fL l f = f l
 | [], _ => rfl
 | a :: r, f => by simp [fL, bR, Ml r]
def fB {α : Type} (b : Bool) (f : Bool -> α) : α := match b with | true => f true | false => f false
theorem Wy {α : Type} (b : Bool) (f : Bool -> α) : fB b f = f b := by cases b <;> rfl
def ob {α β : Type} (o : Option α) (k : α -> Option β) : Option β := match o with | some x => k x | none => none
theorem aA {α β : Type} {o : Option α} {k : α -> Option β} {r : β} (h : ob o k = some r) : ∃ x, o = some x ∧ k x = some r := by
 cases o
 ·cases h
 ·exact ⟨_, rfl, h⟩
def ck {α : Type} (b : Bool) (x : Option α) : Option α := match b with | true => x | false => none
theorem aD {α : Type} {b : Bool} {x : Option α} {r : α} (h : ck b x = some r) : b = true ∧ x = some r := by
 cases b
 ·cases h
 ·exact ⟨rfl, h⟩
def drp {α : Type} : Nat -> List α -> List α
 | 0, l => l
 | _ + 1, [] => []
 | n + 1, _ :: r => drp n r
def tk : Nat -> List AV -> Option (List AV)
 | 0, _ => some []
 | _ + 1, [] => none
 | n + 1, a :: r => match tk n r with | some l => some (a :: l) | none => none
def nth : List AV -> Nat -> Option AV
 | [], _ => none
 | a :: _, 0 => some a
 | _ :: r, n + 1 => nth r n
def over : List AV -> List AV -> Option (List AV)
 | [], cs => some cs
 | n :: r, _ :: cs => match over r cs with | some l => some (n :: l) | none => none
 | _ :: _, [] => none
def splice : Nat -> List AV -> List AV -> Option (List AV)
 | 0, cs, new => over new cs
 | k + 1, c :: cs, new => match splice k cs new with | some l => some (c :: l) | none => none
 | _ + 1, [], _ => none
def AV.one : AV -> Bool
 | .ag _ | .tu _ => false
 | _ => true
def eP : List AV -> Bool
 | [] => true
 | a :: r => a.one && eP r
def AV.cells : AV -> List AV
 | .ag l => l
 | v => [v]
def len {α : Type} : List α -> Nat
 | [] => 0
 | _ :: r => len r + 1
def jZ (A : W) (B : Blk) : Option W := ck (Nat.blt A.nx big) (fN (A.nx + 1) fun n => some ⟨A.H.put A.nx (some B), n⟩)
def zJk (A : W) (e : TypeId) : Nat := A.nx + big * (e + 1)
def Qc (c : Nat) (e : TypeId) : Bool := match bB c with | none => true | some t => Nat.beq e t
def qM (A : W) (e : TypeId) (cs : List AV) : Option W := fN (zJk A e) fun k => jZ A (.cells cs k true false)
def kM (A : W) (cs : List AV) : Option W := jZ A (.cells cs A.nx true false)
def aWr (lo : Nat) (A : W) (id off : Nat) (new : List AV) : Option W :=
 match A.H.get id with
 | some (.cells cs cls true shr) => ck (Nat.ble lo id && Nat.blt id big) (ob (splice off cs new) fun cs' => some ⟨(gX lo A.H cls shr).put id (some (.cells cs' cls true false)), A.nx⟩)
 | some (.typed t cs) => ck (Nat.ble lo id && Nat.blt id big) (ob (splice off cs new) fun cs' => some ⟨A.H.put id (some (.typed t cs')), A.nx⟩)
 | _ => none
def aRd (A : W) (id off n : Nat) : Option (List AV) :=
 match A.H.get id with
 | some (.cells cs _ _ _) => tk n (drp off cs)
 | some (.typed _ cs) => tk n (drp off cs)
 | _ => none
def zCa : AV -> Bool
 | .mp _ | .nm => true
 | _ => false
def Wz : CK -> List AV -> Bool
 | .struct _, [.np, .ns] => true
 | _, _ => false
section ops
variable (P : Program) (lo : Nat) (I : T CI) (ev : Operand -> Option AV) (A : W)
def Gd (t : TypeId) (v : AV) : Option AV :=
 match v with
 | .pt id off => ob (I.get t) fun ci => ob (aRd A id off (cnd ci.k.isAgg ci.size 1)) fun l => match ci.k.isAgg, l with
  | true, l => some (.ag l)
  | false, [x] => ck x.one (some x)
  | false, _ => none
 | _ => none
def Qd (t : TypeId) (v x : AV) : Option W :=
 match v with
 | .pt id off => ob (I.get t) fun ci => ck (Nat.beq (len x.cells) ci.size && eP x.cells) (aWr lo A id off x.cells)
 | _ => none
def mD {α : Type} (P : Program) : Sem α -> Option α
 | .pure a => some a
 | .program k => mD P (k P)
 | .mark _ k => mD P k
 | _ => none
theorem mE {α : Type} {P : Program} : ∀ {s : Sem α} {a : α}, mD P s = some a -> ∀ w, s.run P w = .ok a w
 | .pure a, b, h, w => by simp only [mD, Option.some.injEq] at h; subst h; rfl
 | .program k, b, h, w => by simp only [mD] at h; exact mE (s := k P) h w
 | .mark _ k, b, h, w => by simp only [mD] at h; exact mE (s := k) h w
def Ja : AV -> Option Value
 | .bo b => some (.bool b)
 | .it k n => some (.int k n)
 | .fl k x => some (.float k x)
 | .cx k x y => some (.complex k x y)
 | _ => none
def zQ : Value -> Option AV
 | .bool b => fB b fun b => some (.bo b)
 | .int k n => fI n fun n => some (.it k n)
 | .float k x => fN x fun x => some (.fl k x)
 | .complex k x y => fN x fun x => fN y fun y => some (.cx k x y)
 | _ => none
def nH : List Nat -> List Nat -> Bool
 | [], [] => true
 | a :: r, b :: s => cnd (Nat.beq a b) (nH r s) false
 | _, _ => false
def ltL : List Nat -> List Nat -> Bool
 | _, [] => false
 | [], _ :: _ => true
 | a :: x, b :: y => cnd (Nat.blt a b) true (cnd (Nat.beq a b) (ltL x y) false)
def Xa (op : BinOp) (x y : List Nat) : Option AV :=
 match op with
 | .add => ck (Nat.ble (len x + len y) 1000000) (fL (x ++ y) fun l => some (.st l))
 | .eql => fB (nH x y) fun b => some (.bo b)
 | .neq => fB (!nH x y) fun b => some (.bo b)
 | .lss => fB (ltL x y) fun b => some (.bo b)
 | .leq => fB (ltL x y || nH x y) fun b => some (.bo b)
 | .gtr => fB (!(ltL x y || nH x y)) fun b => some (.bo b)
 | .geq => fB (!ltL x y) fun b => some (.bo b)
 | _ => none
def isNil (k : CK) (v : AV) : Option Bool :=
 match k, v with
 | .ptr _, .np => some true
 | .ptr _, .pt .. => some false
 | .slice _, .ns => some true
 | .slice _, .sl .. => some false
 | .slice _, .se _ => some false
 | .map .., .nm => some true
 | .map .., .mp _ => some false
 | .func, .nf => some true
 | .func, .fn .. => some false
 | .iface, .ni => some true
 | .iface, .ic .. => some false
 | _, _ => none
def zR (op : BinOp) (b : Bool) : Option AV :=
 match op with
 | .eql => some (.bo b)
 | .neq => fB (!b) fun b => some (.bo b)
 | _ => none
def oH : Operand -> Bool
 | .const (.pointer none) | .const .nilIface | .const .nilFunc | .const (.slice none 0 0) | .const (.map none) => true
 | _ => false
def dN {α : Type} (f : List AV -> Option (α × List AV)) : Nat -> List AV -> Option (List α × List AV)
 | 0, l => some ([], l)
 | n + 1, l => match f l with
  | some (x, l) => match dN f n l with
   | some (xs, l) => some (x :: xs, l)
   | none => none
  | none => none
def dT : (t : Dec.Ty) -> List AV -> Option (t.den × List AV)
 | .unit, l => some ((), l)
 | .bool, .bo b :: l => some (b, l)
 | .int k, .it j n :: l => ck (decide (j = k)) (some (n, l))
 | .str, .st x :: l => some (x.map UInt8.ofNat, l)
 | .pair a b, l => match dT a l with
  | some (x, l) => match dT b l with
   | some (y, l) => some ((x, y), l)
   | none => none
  | none => none
 | .arr n a, l => dN (dT a) n l
 | _, _ => none
def zCb (ty : Dec.Ty) (a b : List AV) : Option Bool :=
 match dT ty a, dT ty b with
 | some (x, []), some (y, []) => some (ty.beq x y)
 | _, _ => none
def zCc (op : BinOp) (t : TypeId) (xo yo : Operand) (x y : AV) : Option AV :=
 match x, y with
 | .st a, .st b => Xa op a b
 | .ag a, .ag b => ob (I.get t) fun ti => ob ti.eqs fun ty => ob (zCb ty a b) (zR op)
 | .md k m r, .it j n => match op with
  | .rem => ck (decide (k = .i64) && decide (j = .i64) && decide (n = .ofNat m) && Nat.blt 0 m) (some (.it .i64 (.ofNat r)))
  | _ => none
 | _, _ =>
  match Ja x, Ja y with
  | some u, some v => ob (mD P (do eqGuard op t xo yo u v; binOp op t u v)) zQ
  | _, _ => ob (I.get t) fun ci => match isNil ci.k x, isNil ci.k y with
   | some true, some true => ck (oH xo || oH yo) (zR op true)
   | some false, some true => zR op false
   | some true, some false => zR op false
   | _, _ => none
def aUn (op : UnOp) (x : AV) : Option AV := ob (Ja x) fun u => ob (mD P (Op.unary op u)) zQ
def vD : List Nat -> List AV
 | [] => []
 | b :: r => .it .u8 (.ofNat b) :: vD r
def jU : List AV -> Option (List Nat)
 | [] => some []
 | .it .u8 (.ofNat n) :: r => ck (Nat.blt n 256) (ob (jU r) fun l => some (n :: l))
 | _ => none
def Xb (src dst : TypeId) (x : AV) : Option (AV × W) :=
 match x with
 | .st l => ob (I.get src) fun si => ob (I.get dst) fun di => match si.k, di.k with
  | .str, .str => some (.st l, A)
  | .str, .slice e => ob (I.get e) fun ei => match ei.k with
   | .int .u8 => ob (kM A (vD l)) fun A' => fN (len l) fun n => ck (Nat.ble (len l) 1000000) (some (.sl A.nx 0 n n 1 false, A'))
   | _ => none
  | _, _ => none
 | .ns => ob (I.get src) fun si => ob (I.get dst) fun di => match si.k, di.k with
  | .slice e, .str => ob (I.get e) fun ei => match ei.k with
   | .int .u8 => some (.st [], A)
   | _ => none
  | _, _ => none
 | .se _ => ob (I.get src) fun si => ob (I.get dst) fun di => match si.k, di.k with
  | .slice e, .str => ob (I.get e) fun ei => match ei.k with
   | .int .u8 => some (.st [], A)
   | _ => none
  | _, _ => none
 | .sl id off n _ _ _ => ob (I.get src) fun si => ob (I.get dst) fun di => match si.k, di.k with
  | .slice e, .str => ob (I.get e) fun ei => match ei.k with
   | .int .u8 => ob (aRd A id off n) fun cs => ob (jU cs) fun l => fL l fun l => some (.st l, A)
   | _ => none
  | _, _ => none
 | .md _ m r => ob (I.get src) fun _ => ob (I.get dst) fun di => match di.k with
  | .int .i64 => some (.md .i64 m r, A)
  | _ => none
 | x => ob (Ja x) fun u => ob (mD P (convert src dst u)) fun v => ob (zQ v) fun a => some (a, A)
def kN : AV -> Option Nat
 | .it _ (.ofNat n) => some n
 | _ => none
def iF (d : Nat) : Option AV -> Option Nat
 | none => some d
 | some a => kN a
def Xc : Option AV -> Option AV -> Bool
 | _, none => true
 | some _, some _ => true
 | none, some _ => false
def rT (t : TypeId) (x : AV) (lo' hi mx : Option AV) : Option AV :=
 ck (Xc hi mx) (ob (I.get t) fun ti => ob (iF 0 lo') fun l =>
 match ti.k, x with
 | .str, .st s => match mx with
  | some _ => none
  | none => ob (iF (len s) hi) fun h => ck (Nat.ble l h && Nat.ble h (len s)) (ob (tkN (h - l) (drp l s)) fun r => some (.st r))
 | .slice e, .ns => ob (I.get e) fun _ => ob (iF 0 hi) fun h => ob (iF 0 mx) fun m => ck (Nat.beq l 0 && Nat.beq h 0 && Nat.beq m 0) (some .ns)
 | .slice e, .se z => ob (I.get e) fun _ => ob (iF 0 hi) fun h => ck (Nat.beq l 0 && Nat.beq h 0) (match mx with
  | none => some (.se z)
  | some mv => ob (kN mv) fun m => ck (Nat.beq m 0) (some (.se true)))
 | .slice e, .sl id off n c sz ex => ob (iF n hi) fun h => ob (I.get e) fun ei =>
  ck (Nat.beq ei.size sz) (match mx with
  | none => ck (Nat.ble l h && Nat.ble h (cnd (Nat.ble n c) c n)) (cnd (Nat.beq l 0)
    (fN h fun h => some (.sl id off h c sz ex))
    (cnd (Nat.blt l c) (fN (off + l * sz) fun o => fN (h - l) fun h => fN (c - l) fun c => some (.sl id o h c sz ex)) (ck (Nat.beq h l) (some (.se ex)))))
  | some mv => ob (kN mv) fun m => ck (Nat.ble l h && Nat.ble h m && Nat.ble m (cnd (Nat.ble n c) c n)) (cnd (Nat.beq l 0)
    (fN h fun h => fN m fun m => some (.sl id off h m sz true))
    (cnd (Nat.blt l m) (fN (off + l * sz) fun o => fN (h - l) fun h => fN (m - l) fun m => some (.sl id o h m sz true)) (some (.se true)))))
 | .arr n e, .pt id off => match mx with
  | some _ => none
  | none => ob (iF n hi) fun h => ob (I.get e) fun ei => ob (aRd A id off (n * ei.size)) fun _ =>
   ck (Nat.ble l h && Nat.ble h n && Nat.blt 0 (n * ei.size) && Nat.ble n 1000000) (cnd (Nat.beq l 0)
    (fN h fun h => some (.sl id off h n ei.size true))
    (ck (Nat.blt l n) (fN (off + l * ei.size) fun o => fN (h - l) fun h => fN (n - l) fun c => some (.sl id o h c ei.size true))))
 | _, _ => none)
where
 tkN : Nat -> List Nat -> Option (List Nat)
 | 0, _ => some []
 | _ + 1, [] => none
 | n + 1, a :: r => match tkN n r with | some l => some (a :: l) | none => none
def Qe (t : TypeId) (x : AV) (f : Nat) : Option AV :=
 match x with
 | .ag l => ob (I.get t) fun ti => match ti.k with
  | .struct fs => ob fs[f]? fun p => ob (I.get p.2) fun fi => match fi.k.isAgg with
   | true => ob (tk fi.size (drp p.1 l)) fun l => some (.ag l)
   | false => nth l p.1
  | _ => none
 | _ => none
def wY (t : TypeId) (x : AV) (f : Nat) : Option AV :=
 match x with
 | .pt id off => ob (I.get t) fun ti => match ti.k with
  | .struct fs => ob fs[f]? fun p => ob (I.get p.2) fun fi => ck (!Nat.beq fi.size 0) (fN (off + p.1) fun o => some (.pt id o))
  | _ => none
 | _ => none
def wZ (t : TypeId) (x i : AV) : Option AV :=
 ob (I.get t) fun ti => ob (kN i) fun i =>
 match ti.k, x with
 | .arr n e, .pt id off => ob (I.get e) fun ei => ck (Nat.blt i n) (fN (off + i * ei.size) fun o => some (.pt id o))
 | .slice e, .sl id off n _ _ _ => ob (I.get e) fun ei => ck (Nat.blt i n) (fN (off + i * ei.size) fun o => some (.pt id o))
 | _, _ => none
def Qf (t : TypeId) (x i : AV) : Option AV :=
 ob (I.get t) fun ti => ob (kN i) fun i =>
 match ti.k, x with
 | .str, .st s => match drp i s with
  | b :: _ => some (.it .u8 (.ofNat b))
  | [] => none
 | .arr n e, .ag l => ob (I.get e) fun ei => ck (Nat.blt i n) (match ei.k.isAgg with
   | true => ob (tk ei.size (drp (i * ei.size) l)) fun l => some (.ag l)
   | false => nth l (i * ei.size))
 | _, _ => none
def avs : List Operand -> Option (List AV)
 | [] => some []
 | x :: r => match ev x, avs r with
  | some a, some l => some (a :: l)
  | _, _ => none
def xA (place : Nat -> Option (Nat × Nat)) : List (Nat × Operand) -> List AV -> Option (List AV)
 | [], cs => some cs
 | (i, x) :: r, cs => match place i, ev x with
  | some (off, size), some a => ck (Nat.beq (len a.cells) size && eP a.cells) (match splice off cs a.cells with | some cs => xA place r cs | none => none)
  | _, _ => none
def rep : Nat -> List AV -> List AV
 | 0, _ => []
 | n + 1, z => z ++ rep n z
def xB : List (Nat × TypeId) -> Bool
 | [] => true
 | p :: r => (match I.get p.2 with | some _ => true | none => false) && xB r
def Qg (t : TypeId) (parts : List (Nat × Operand)) : Option AV :=
 ob (I.get t) fun ti => match ti.k with
 | .struct fs => ck (xB I fs) <| ob (xA ev (fun i => match fs[i]? with | some p => (match I.get p.2 with | some fi => some (p.1, fi.size) | none => none) | none => none) parts ti.zero) fun l => some (.ag l)
 | .arr _ e => ob (I.get e) fun ei => ob (xA ev (fun i => some (i * ei.size, ei.size)) parts ti.zero) fun l => some (.ag l)
 | _ => none
def uL (t : TypeId) (n : Nat) (parts : List (Nat × Operand)) : Option (AV × W) :=
 ob (I.get t) fun ti => match ti.k with
 | .slice e => ob (I.get e) fun ei => ck (Nat.ble (n * ei.size) 16777216 && Nat.blt 0 ei.size) (ob (xA ev (fun i => some (i * ei.size, ei.size)) parts (rep n ei.zero)) fun cs =>
   ob (kM A cs) fun A' => some (.sl A.nx 0 n n ei.size true, A'))
 | _ => none
def xC (t : TypeId) (l c : AV) : Option (AV × W) :=
 ob (I.get t) fun ti => ob (kN l) fun l => ob (kN c) fun c => match ti.k with
 | .slice e => ob (I.get e) fun ei => ck (Nat.ble l c && Nat.ble (c * ei.size) 1000000 && Nat.ble (c * ei.bytes) 1000000000 && Nat.ble c 1000000 && Nat.blt 0 ei.size) (ob (kM A (rep c ei.zero)) fun A' => some (.sl A.nx 0 l c ei.size true, A'))
 | _ => none
def Mq (size : Nat) : AV -> Option (Nat × List AV)
 | .ns => some (0, [])
 | .se _ => some (0, [])
 | .sl id off n _ _ _ => ob (aRd A id off (n * size)) fun l => ck (eP l) (some (n, l))
 | .st l => ck (Nat.beq size 1) (some (len l, vD l))
 | _ => none
def vE (k : CK) (x : AV) : Bool := match k, x with | .slice _, .ns | .slice _, .se _ | .slice _, .sl .. | .str, .st _ => true | _, _ => false
def Jb (t tx : TypeId) (s x : AV) : Option (AV × W) :=
  ob (I.get t) fun ti => ob (I.get tx) fun xi => match ti.k with
  | .slice e => ob (I.get e) fun ei => ck (vE xi.k x && Nat.blt 0 ei.size) (ob (Mq A ei.size x) fun p =>
    cnd (Nat.beq p.1 0) (match s with | .ns => some (s, A) | .sl .. => some (s, A) | .se _ => some (s, A) | _ => none)
    (match s with
    | .se true => ck (Nat.ble p.1 1000000 && Nat.ble (p.1 * ei.bytes) 1000000000) (ob (qM A e p.2) fun A' => fN p.1 fun n => some (.sl A.nx 0 n n ei.size false, A'))
    | .ns => ck (Nat.ble p.1 1000000 && Nat.ble (p.1 * ei.bytes) 1000000000) (ob (qM A e p.2) fun A' => fN p.1 fun n => some (.sl A.nx 0 n n ei.size false, A'))
    | .sl id off n c sz ex => ck (Nat.beq sz ei.size) (fN (n + p.1) fun need => cnd (Nat.ble need c)
        (ob (aWr lo A id (off + n * sz) p.2) fun A' => some (.sl id off need c sz ex, A'))
        (ck (Nat.ble need 1000000 && Nat.ble (need * ei.bytes) 1000000000) (ob (aRd A id off (n * sz)) fun olds => ck (eP olds) (match ex with
          | true => ob (qM A e (olds ++ p.2)) fun A' => some (.sl A.nx 0 need need sz false, A')
          | false => match A.H.get id with
            | some (.cells cs cls true shr) => ck (Nat.ble lo id && Nat.blt A.nx big && Nat.beq (len cs) (off + n * sz) && Qc cls e) (fN (A.nx + 1) fun nx =>
                some (.sl A.nx 0 need need sz false, ⟨((gX lo A.H cls shr).put id (some (.cells cs cls false true))).put A.nx (some (.cells (olds ++ p.2) cls true true)), nx⟩))
            | _ => none))))
    | _ => none))
  | _ => none
def Xd (t tx : TypeId) (s x : AV) : Option (AV × W) :=
 ob (I.get t) fun ti => ob (I.get tx) fun xi => match ti.k with
 | .slice e => ob (I.get e) fun ei => ck (vE xi.k x) (ob (Mq A ei.size x) fun p => match s with
  | .sl id off n _ sz _ => ck (Nat.beq sz ei.size && Nat.ble p.1 n) (cnd (Nat.beq p.1 0) (some (.it .i64 (.ofNat 0), A)) (ob (aWr lo A id off p.2) fun A' => fN p.1 fun k => some (.it .i64 (.ofNat k), A')))
  | _ => none)
 | _ => none
def zCd (t : TypeId) (x : AV) : Option AV :=
 ob (I.get t) fun ti => match ti.k, x with
 | .str, .st s => fN (len s) fun n => some (.it .i64 (.ofNat n))
 | .slice _, .ns => some (.it .i64 (.ofNat 0))
 | .slice _, .sl _ _ n _ _ _ => some (.it .i64 (.ofNat n))
 | .slice _, .se _ => some (.it .i64 (.ofNat 0))
 | .arr n _, _ => some (.it .i64 (.ofNat n))
 | .map .., .nm => some (.it .i64 (.ofNat 0))
 | .map .., .mp id => match A.H.get id with
  | some (.map es _) => fN (len es) fun n => some (.it .i64 (.ofNat n))
  | _ => none
 | _, _ => none
def zCe (t : TypeId) (x : AV) : Option AV :=
 ob (I.get t) fun ti => match ti.k, x with
 | .slice _, .ns => some (.it .i64 (.ofNat 0))
 | .slice _, .se true => some (.it .i64 (.ofNat 0))
 | .slice _, .sl _ _ _ c _ true => some (.it .i64 (.ofNat c))
 | _, _ => none
def Dj (t tx : TypeId) (s x : AV) : Option (AV × W) :=
 ob (I.get t) fun ti => ob (I.get tx) fun xi => match ti.k, xi.k, s with
 | .slice e, .int _, .ns => ob (I.get e) fun ei => ob (kN x) fun n => ck (Nat.blt 0 ei.size && Nat.blt 0 n && Nat.ble n 1000000 && Nat.ble (n * ei.bytes) 1000000000) (ob (kM A (rep n ei.zero)) fun A' => some (.sl A.nx 0 n n ei.size false, A'))
 | _, _, _ => none
def Ay (mx : Bool) : List AV -> Option AV
 | [.it k x, .it _ y] => some (cnd mx (cnd (decide (y > x)) (.it k y) (.it k x)) (cnd (decide (y < x)) (.it k y) (.it k x)))
 | _ => none
def Dk (b : Builtin) (ts : List TypeId) (xs : List AV) : Option (AV × W) :=
 match b, ts, xs with
 | .len, [t], [x] => ob (zCd I A t x) fun v => some (v, A)
 | .append, [t, tx], [s, x] => match x with
  | .it .. => Dj I A t tx s x
  | _ => Jb lo I A t tx s x
 | .cap, [t], [x] => ob (zCe I t x) fun v => some (v, A)
 | .copy, [t, tx], [s, x] => Xd lo I A t tx s x
 | .real, _, [.cx k x _] => some (.fl k x, A)
 | .imag, _, [.cx k _ y] => some (.fl k y, A)
 | .complex, _, [.fl k x, .fl j y] => ck (decide (k = j)) (some (.cx k x y, A))
 | .max, _, xs => ob (Ay true xs) fun v => some (v, A)
 | .min, _, xs => ob (Ay false xs) fun v => some (v, A)
 | _, _, _ => none
def Az : AV -> AV -> Option Bool
 | .it k a, .it k' b => match decide (k = k') with | true => some (decide (a = b)) | false => none
 | .st a, .st b => some (nH a b)
 | .bo a, .bo b => some (a == b)
 | _, _ => none
def eX (k : CK) (v : AV) : Bool :=
 match k, v with
 | .int _, .it .. => true
 | .str, .st _ => true
 | .bool, .bo _ => true
 | _, _ => false
def xD (key : AV) : List (AV × AV × Nat) -> Nat -> Option (Option (Nat × AV))
 | [], _ => some none
 | e :: r, i => match Az key e.1 with
  | some true => some (some (i, e.2.1))
  | some false => xD key r (i + 1)
  | none => none
def Qh (v : AV) : List (AV × AV × Nat) -> Nat -> List (AV × AV × Nat)
 | [], _ => []
 | e :: r, 0 => (e.1, v, e.2.2) :: r
 | e :: r, i + 1 => e :: Qh v r i
def qX (agg : Bool) (l : List AV) : Option AV :=
 match agg, l with
 | true, l => some (.ag l)
 | false, [x] => some x
 | false, _ => none
def kV (n : Nat) : List Nat -> Bool
 | [] => false
 | a :: r => Nat.beq n a || kV n r
def Xe (m key : AV) : Option (Option AV) :=
 match m with
 | .nm => some none
 | .mp id => match A.H.get id with
  | some (.map es _) => ob (xD key es 0) fun r => match r with | some (_, v) => some (some v) | none => some none
  | some (.dict k es nG) => match key with
   | .it j (.ofNat n) => ck (decide (j = k)) (match lkN n es with | some v => ck (kV n nG) (some (some v)) | none => some none)
   | _ => none
  | _ => none
 | _ => none
def Jc (t : TypeId) (m key : AV) (ok : Bool) : Option AV :=
 ob (I.get t) fun ti => match ti.k with
 | .map kt et => ob (I.get kt) fun ki => ob (I.get et) fun ei => ck (eX ki.k key) (
  ob (Xe A m key) fun r => match r with
   | some v => some (cnd ok (.tu [v, .bo true]) v)
   | none => ob (qX ei.k.isAgg ei.zero) fun z => some (cnd ok (.tu [z, .bo false]) z))
 | _ => none
def isFn : AV -> Option FuncId
 | .fn (.func f) [] [] => some f
 | _ => none
def Jd (t : TypeId) (m key v : AV) : Option W :=
 ob (I.get t) fun ti => match ti.k, m with
 | .map kt _, .mp id => ob (I.get kt) fun ki => ck (eX ki.k key && Nat.ble lo id && Nat.blt id big) (match A.H.get id with
  | some (.map es clk) => ob (xD key es 0) fun r => match r with
   | some (i, _) => some ⟨A.H.put id (some (.map (Qh v es i) clk)), A.nx⟩
   | none => fN (clk + 1) fun c => some ⟨A.H.put id (some (.map (es ++ [(key, v, clk)]) c)), A.nx⟩
  | some (.dict k es nG) => match key with
   | .it j (.ofNat n) => ck (decide (j = k)) (ob (lkN n es) fun u => ob (isFn u) fun f => ob (isFn v) fun g => ck (Nat.beq f g) (some ⟨A.H.put id (some (.dict k es (n :: nG))), A.nx⟩))
   | _ => none
  | _ => none)
 | _, _ => none
def zS (t : TypeId) (m key : AV) : Option (AV × W) :=
 ob (I.get t) fun ti => match ti.k, m with
 | .map kt et, .mp id => ob (I.get kt) fun ki => ob (I.get et) fun ei => ck (eX ki.k key && Nat.ble lo id && Nat.blt id big) (match A.H.get id with
  | some (.map es clk) => ob (xD key es 0) fun r => match r with
   | some (i, v) => ob es[i]? fun e => some (.tu [v, .it .i64 (.ofNat e.2.2)], A)
   | none => ob (qX ei.k.isAgg ei.zero) fun z => fN (clk + 1) fun c => some (.tu [z, .it .i64 (.ofNat clk)], ⟨A.H.put id (some (.map (es ++ [(key, z, clk)]) c)), A.nx⟩)
  | _ => none)
 | _, _ => none
def Gf (n : Nat) : List (AV × AV × Nat) -> Nat -> Option Nat
 | [], _ => none
 | e :: r, i => cnd (Nat.beq e.2.2 n) (some i) (Gf n r (i + 1))
def uM (m stamp v : AV) : Option W :=
 match m with
 | .mp id => ob (kN stamp) fun n => ck (Nat.ble lo id && Nat.blt id big) (match A.H.get id with
  | some (.map es clk) => ob (Gf n es 0) fun i => some ⟨A.H.put id (some (.map (Qh v es i) clk)), A.nx⟩
  | _ => none)
 | _ => none
def Qi (t : TypeId) (x : AV) : Option (AV × W) :=
 ob (I.get t) fun ti => match ti.k, x with
 | .map .., .mp id => match A.H.get id with
  | some (.map _ clk) => ob (jZ A (.mit id clk [] clk)) fun A' => some (.pt A.nx 0, A')
  | _ => none
 | .str, .st l => ob (jZ A (.sit l 0)) fun A' => some (.pt A.nx 0, A')
 | _, _ => none
def Gg (seen : List Nat) : List (AV × AV × Nat) -> List (AV × AV × Nat)
 | [] => []
 | e :: r => cnd (kV e.2.2 seen) (Gg seen r) (e :: Gg seen r)
def Ba (st : Nat) (seen : List Nat) (es : List (AV × AV × Nat)) : Bool :=
 match seen, es with
 | [], _ => true
 | _, [] => true
 | _, es => go es
where
 go : List (AV × AV × Nat) -> Bool
 | [] => false
 | e :: r => Nat.blt e.2.2 st || go r
def Xf (it : AV) (isStr : Bool) : Option (AV × W) :=
 match it, isStr with
 | .pt id 0, true => match A.H.get id with
  | some (.sit l pos) => ck (Nat.ble lo id && Nat.blt id big) (match drp pos l with
   | [] => some (.tu [.bo false], A)
   | b :: _ => ck (Nat.blt b 128) (fN (pos + 1) fun p => some (.tu [.bo true, .it .i64 (.ofNat pos), .it .i32 (.ofNat b)], ⟨A.H.put id (some (.sit l p)), A.nx⟩)))
  | _ => none
 | .pt id 0, false => match A.H.get id with
  | some (.mit m since seen st) => match A.H.get m with
   | some (.map es clk) => ck (Nat.beq clk since && Nat.ble lo id && Nat.blt id big && Ba st seen es) (match Gg seen es with
    | [] => some (.tu [.bo false], A)
    | [e] => ck (Nat.blt e.2.2 since) (some (.tu [.bo true, e.1, e.2.1], ⟨A.H.put id (some (.mit m since (e.2.2 :: seen) clk)), A.nx⟩))
    | _ => none)
   | _ => none
  | _ => none
 | _, _ => none
def Mr : List Nat -> Option Nat
 | [] => none
 | a :: _ => some a
def Gh (n : Nat) : List (AV × AV × Nat) -> Option (AV × AV)
 | [] => none
 | e :: r => cnd (Nat.beq e.2.2 n) (some (e.1, e.2.1)) (Gh n r)
def Qj (it : AV) : Option AV :=
 match it with
 | .pt id 0 => match A.H.get id with
  | some (.mit m _ seen st) => match A.H.get m with
   | some (.map es clk) => ck (Nat.beq clk st) (ob (Mr seen) fun n => ob (Gh n es) fun e => some (.tu [e.1, e.2]))
   | _ => none
  | _ => none
 | _ => none
def Je (_ asd : TypeId) (x : AV) (ok : Bool) : Option AV :=
 ob (I.get asd) fun ai => match ai.k, x with
 | .iface, _ => none
 | _, .ic t v => cnd (Nat.beq t asd) (some (cnd ok (.tu [v, .bo true]) v)) (match ok with
  | true => ob (qX ai.k.isAgg ai.zero) fun z => some (.tu [z, .bo false])
  | false => none)
 | _, .ni => match ok with
  | true => ob (qX ai.k.isAgg ai.zero) fun z => some (.tu [z, .bo false])
  | false => none
 | _, _ => none
def Qk (k : CK) : Bool := match k with | .iface => false | _ => true
def zDi : AV -> Bool
 | .pt .. | .fn (.func _) _ _ | .ic .. => true
 | _ => false
def aOp (o : Op) : Option (AV × W) :=
 match o with
 | .move x | .assign x => ob (ev x) fun v => some (v, A)
 | .pick c x y => ob (ev c) fun c => match c with
  | .bo true => ob (ev x) fun v => some (v, A)
  | .bo false => ob (ev y) fun v => some (v, A)
  | _ => none
 | .alloc e => ob (I.get e) fun ei => ob (cnd (Wz ei.k ei.zero) (jZ A (.typed e ei.zero)) (kM A ei.zero)) fun A' => some (.pt A.nx 0, A')
 | .box e x => ob (ev x) fun v => ck (eP v.cells) (ob (cnd (zCa v) (jZ A (.typed e v.cells)) (kM A v.cells)) fun A' => some (.pt A.nx 0, A'))
 | .build t ps => ob (Qg I ev t ps.toList) fun v => some (v, A)
 | .buildSlice t n ps => uL I ev A t n ps.toList
 | .load t x => ob (ev x) fun x => ob (Gd I A t x) fun v => some (v, A)
 | .store t x y => ob (ev x) fun x => ob (ev y) fun y => ob (Qd lo I A t x y) fun A' => some (.tu [], A')
 | .nilCheck x => ob (ev x) fun v => ck (zDi v) (some (v, A))
 | .binOp op t x y _ => ob (ev x) fun a => ob (ev y) fun b => ob (zCc P I op t x y a b) fun v => some (v, A)
 | .unOp op _ x => ob (ev x) fun a => ob (aUn P op a) fun v => some (v, A)
 | .convert s d x => ob (ev x) fun a => Xb P I A s d a
 | .makeInterface t x => ob (ev x) fun a => ob (I.get t) fun ti => ck (Qk ti.k) (some (.ic t a, A))
 | .makeFunc f fs cs => ob (avs ev fs.toList) fun fs => ob (avs ev cs.toList) fun cs => some (.fn f fs cs, A)
 | .makeMap _ none => ob (jZ A (.map [] 0)) fun A' => some (.mp A.nx, A')
 | .makeSlice t l c => ob (ev l) fun l => ob (ev c) fun c => xC I A t l c
 | .slice t x l h m => ob (ev x) fun x => ob (opt l) fun l => ob (opt h) fun h => ob (opt m) fun m => ob (rT I A t x l h m) fun v => some (v, A)
 | .fieldAddr t x f => ob (ev x) fun x => ob (wY I t x f) fun v => some (v, A)
 | .field t x f => ob (ev x) fun x => ob (Qe I t x f) fun v => some (v, A)
 | .indexAddr t x i => ob (ev x) fun x => ob (ev i) fun i => ob (wZ I t x i) fun v => some (v, A)
 | .index t x i => ob (ev x) fun x => ob (ev i) fun i => ob (Qf I t x i) fun v => some (v, A)
 | .lookup t x i ok => ob (ev x) fun x => ob (ev i) fun i => ob (Jc I A t x i ok) fun v => some (v, A)
 | .mapUpdate t m k x | .insert t m k x => ob (ev m) fun m => ob (ev k) fun k => ob (ev x) fun x => ob (Jd lo I A t m k x) fun A' => some (.tu [], A')
 | .mapEntry t m k => ob (ev m) fun m => ob (ev k) fun k => zS lo I A t m k
 | .entryStore _ m s x => ob (ev m) fun m => ob (ev s) fun s => ob (ev x) fun x => ob (uM lo A m s x) fun A' => some (.tu [], A')
 | .range t x => ob (ev x) fun x => Qi I A t x
 | .next x b => ob (ev x) fun x => Xf lo A x b
 | .entry x => ob (ev x) fun x => ob (Qj A x) fun v => some (v, A)
 | .typeAssert x xt asd ok => ob (ev x) fun x => ob (Je I xt asd x ok) fun v => some (v, A)
 | .extract x i => ob (ev x) fun x => match x with
  | .tu l => ob (nth l i) fun v => some (v, A)
  | _ => none
 | .call { callee := .builtin b, args, argTypes } => ob (avs ev args.toList) fun xs => Dk lo I A b argTypes.toList xs
 | _ => none
where
 opt : Option Operand -> Option (Option AV)
 | none => some none
 | some x => ob (ev x) fun v => some (some v)
end ops
end Go.Ce
namespace Go.Ce
inductive Ex where
 | normal | exit (id : Nat) | goto (l : Nat) | ret | pan (t : TypeId) (v : AV)
inductive Out where
 | ret (v : AV)
 | pan (t : TypeId) (v : AV)
structure Env where
 P : Program
 I : T CI
 F : T Func
 giv : FuncId -> Option (Nat -> W -> List AV -> Option (AV × W))
 tri : FuncId -> Option (TypeId × AV)
mutual
def shp : AV -> AV -> Bool
 | .it k _, .it j _ => decide (k = j)
 | .ag l, .ag m => Dl l m
 | _, _ => false
def Dl : List AV -> List AV -> Bool
 | [], [] => true
 | a :: l, b :: m => shp a b && Dl l m
 | _, _ => false
end
def ev (tm : T AV) : Operand -> Option AV
 | .tmp t => tm.get t
 | .const v => Wx v
 | .func f => some (.fn (.func f) [] [])
 | .global _ => none
def dI (n : Nat) (tm : T AV) (d : Option Tmp) (v : AV) : Option (T AV) :=
 match d with
 | none => some tm
 | some d => ck (Nat.blt d n && Nat.blt d big) (some (tm.put d (some v)))
inductive Md where
 | pl | sc (b : Code) | lp (b : Code)
abbrev Runs := Nat -> Nat -> Md -> Code -> T AV -> W -> Option (Ex × T AV × W)
def oL : Nat -> List AV -> T AV -> T AV
 | _, [], tm => tm
 | i, a :: r, tm => oL (i + 1) r (tm.put i (some a))
section
variable (E : Env) (ih : Runs)
def note {α : Type} (_ : String) (x : Option α) : Option α := x
def Wq (tm : T AV) (A : W) : ResultVar -> Option AV
 | .tmp t => tm.get t
 | .cell a t => ob (tm.get a) fun v => Gd E.I A t v
def jD (tm : T AV) (A : W) : List ResultVar -> Option (List AV)
 | [] => some []
 | r :: rs => match Wq E tm A r, jD tm A rs with
  | some a, some l => some (a :: l)
  | _, _ => none
def xE : List AV -> AV
 | [a] => a
 | l => .tu l
def qY (lo : Nat) (f : FuncId) (args : List AV) (A : W) : Option (Out × W) :=
 ob (E.F.get f) fun fn => ob fn.body fun c => ck (Nat.ble (len args) fn.ntmps && Nat.blt fn.ntmps big) (
  ob (ih fn.ntmps lo .pl c (oL 0 args .nil) A) fun r => match r with
  | (.pan t v, _, A') => some (.pan t v, A')
  | (.normal, tm, A') | (.ret, tm, A') => ob (jD E tm A' fn.results.toList) fun l => some (.ret (xE l), A')
  | _ => none)
def vF (lo : Nat) (f : FuncId) (args : List AV) (A : W) : Option (Out × W) :=
 match E.giv f with
 | some g => ob (g lo A args) fun r => some (.ret r.1, r.2)
 | none => match E.tri f with
  | some (t, z) => match args with
   | [.fn (.func g) fs cs] => ob (qY E ih lo g (fs ++ cs) A) fun r => match r with
    | (.ret (.tu []), A') => some (.ret z, A')
    | (.pan t' v, A') => ck (Nat.beq t t' && shp z v) (some (.ret v, A'))
    | _ => none
   | _ => none
  | none => qY E ih lo f args A
def iO (lo : Nat) (o : Oper) (tm : T AV) (A : W) : Option (AV × W) :=
 match o.op with
 | .call { callee := .value x, args, .. } => ob (ev tm x) fun g => match g with
  | .fn (.func f) fs cs => ob (avs (ev tm) args.toList) fun xs => ob (vF E ih lo f (fs ++ xs ++ cs) A) fun r => match r with
   | (.ret v, A') => some (v, A')
   | _ => none
  | _ => none
 | .panic _ => none
 | p => note o.pos (aOp E.P lo E.I (ev tm) A p)
def Gi (n lo : Nat) (o : Oper) (tm : T AV) (A : W) : Option (Ex × T AV × W) :=
 match o.op with
 | .call { callee := .value x, args, .. } => ob (ev tm x) fun g => match g with
  | .fn (.func f) fs cs => ob (avs (ev tm) args.toList) fun xs => ob (vF E ih lo f (fs ++ xs ++ cs) A) fun r => match r with
   | (.ret v, A') => ob (dI n tm o.dst v) fun tm => some (.normal, tm, A')
   | (.pan t v, A') => some (.pan t v, tm, A')
  | _ => none
 | .panic x => ob (ev tm x) fun v => match v with
  | .ic t v => some (.pan t v, tm, A)
  | _ => none
 | p => ob (note o.pos (aOp E.P lo E.I (ev tm) A p)) fun r => ob (dI n tm o.dst r.1) fun tm => some (.normal, tm, r.2)
def aO (ops : List Oper) (j : Nat) : Option Nat := (ops[j]?).bind (·.dst)
def kG (n lo : Nat) (ops : List Oper) : List Oper -> T AV -> W -> Option (Ex × T AV × W)
 | [], tm, A => some (.normal, tm, A)
 | o :: r, tm, A =>
  match o.guard with
  | none => ob (Gi E ih n lo o tm A) fun x => match x with
   | (.normal, tm, A) => kG n lo ops r tm A
   | x => some x
  | some (j, want) => ob (aO ops j) fun s => ob (tm.get s) fun v => match v with
   | .bo b => cnd (b == want) (ob (Gi E ih n lo o tm A) fun x => match x with
     | (.normal, tm, A) => kG n lo ops r tm A
     | x => some x)
    (ob (dI n tm o.dst (.tu [])) fun tm => kG n lo ops r tm A)
   | .tu [] => ob (dI n tm o.dst (.tu [])) fun tm => kG n lo ops r tm A
   | _ => none
def T.union {α : Type} : T α -> T α -> T α
 | .nil, b => b
 | a, .nil => a
 | .node l v r, .node l' v' r' => .node (T.union l l') (match v with | some x => some x | none => v') (T.union r r')
def T.all {α : Type} (f : α -> Bool) : T α -> Bool
 | .nil => true
 | .node l v r => (match v with | some x => f x | none => true) && (T.all f l && T.all f r)
def Blk.lone : Blk -> Bool
 | .cells _ _ top shr => top && !shr
 | _ => true
def T.isNil {α : Type} : T α -> Bool
 | .nil => true
 | _ => false
mutual
def AV.same : AV -> AV -> Bool
 | .bo a, .bo b => a == b
 | .it k a, .it j b => decide (k = j) && decide (a = b)
 | .st a, .st b => nH a b
 | .np, .np => true
 | .ns, .ns => true
 | .nm, .nm => true
 | .nf, .nf => true
 | .ni, .ni => true
 | .pt a b, .pt c d => Nat.beq a c && Nat.beq b d
 | .mp a, .mp b => Nat.beq a b
 | .sl a b c d e f, .sl a' b' c' d' e' f' => Nat.beq a a' && Nat.beq b b' && Nat.beq c c' && Nat.beq d d' && Nat.beq e e' && f == f'
 | .se a, .se b => a == b
 | .ag l, .ag m => AV.Bc l m
 | .ic t v, .ic u w => Nat.beq t u && AV.same v w
 | _, _ => false
def AV.Bc : List AV -> List AV -> Bool
 | [], [] => true
 | a :: l, b :: m => AV.same a b && AV.Bc l m
 | _, _ => false
end
def Bf : List Nat -> Nat -> Option Nat
 | [], _ => none
 | a :: _, 0 => some a
 | _ :: r, n + 1 => Bf r n
def xG (ms : List Nat) : List Edge -> Option Nat
 | [] => some 0
 | e :: r => match Region.binds .any e with
  | false => xG ms r
  | true => ob (Bf ms e.on) fun m => ob (xG ms r) fun d => some (Nat.lor (Nat.lor (2 ^ e.on) m) d)
def oM : List Nat -> List Oper -> Option (List Nat)
 | ms, [] => some ms
 | ms, o :: r => ob (xG ms o.after.toList) fun d => oM (ms ++ [d]) r
def bit (m i : Nat) : Bool := Nat.beq (Nat.land (Nat.shiftRight m i) 1) 1
def tmpsOf : List Operand -> List Tmp
 | [] => []
 | .tmp t :: r => t :: tmpsOf r
 | _ :: r => tmpsOf r
def view (tm : T AV) : List Tmp -> T AV
 | [] => .nil
 | t :: r => match tm.get t with
  | some v => cnd (Nat.blt t big) ((view tm r).put t (some v)) (view tm r)
  | none => view tm r
def zT (ops : List Oper) (x y : Oper) : Bool := Oper.apart ops.toArray x y && Oper.apart ops.toArray y x
def xH (ops : List Oper) (o : Oper) (d : Nat) : List Oper -> Nat -> Bool
 | [], _ => true
 | x :: r, i => (bit d i || zT ops x o) && xH ops o d r (i + 1)
def nI (ops : List Oper) : List Oper -> List Nat -> List Oper -> Bool
 | _, _, [] => true
 | _, [], _ => false
 | done, d :: ds, o :: r => xH ops o d done 0 && nI ops (done ++ [o]) ds r
def distinct : List Tmp -> Bool
 | [] => true
 | t :: r => !kV t r && distinct r
def pG : List Oper -> List Tmp
 | [] => []
 | o :: r => match o.dst with | some d => d :: pG r | none => pG r
def zDj (ops : List Oper) (ds : List Nat) : Bool := nI ops [] ds ops && distinct (pG ops)
mutual
def AV.under (n : Nat) : AV -> Bool
 | .pt a _ | .sl a _ _ _ _ _ | .mp a => Nat.blt a n
 | .fn _ l m => AV.fZ n l && AV.fZ n m
 | .ic _ v => AV.under n v
 | .ag l | .tu l => AV.fZ n l
 | _ => true
def AV.fZ (n : Nat) : List AV -> Bool
 | [] => true
 | a :: l => AV.under n a && AV.fZ n l
end
def zJl (o : Oper) : Bool :=
 match o.op with
 | .call { callee := .value _, .. } => true
 | .call { callee := .builtin .append, .. } => true
 | .call { callee := .builtin .copy, .. } => true
 | .store .. | .mapUpdate .. | .insert .. | .mapEntry .. | .entryStore .. | .next .. => true
 | _ => false
structure DS where
 tm : T AV
 H : T Blk
 nx : Nat
 pend : List (Nat × T Blk)
 hist : List (Nat × T Blk)
 past : List (Nat × Oper × T AV × AV)
def bU (d : Nat) : List (Nat × T Blk) -> T Blk × List (Nat × T Blk)
 | [] => (.nil, [])
 | p :: r => match bit d p.1 with
  | true => (T.union p.2 (bU d r).1, (bU d r).2)
  | false => ((bU d r).1, p :: (bU d r).2)
def mF : List (Nat × T Blk) -> T Blk -> T Blk
 | [], H => H
 | p :: r, H => T.union p.2 (mF r H)
def chain (d : Nat) : List (Nat × T Blk) -> Bool
 | [] => true
 | p :: r => bit d p.1 && chain d r
def vG (nx : Nat) (H : T Blk) (o : Oper) (tv : T AV) (v : AV) : Bool :=
 match iO E ih nx o tv ⟨H, nx⟩ with
 | some (v', A) => AV.same v' v && Nat.beq A.nx nx
 | none => false
def vH (d nx : Nat) (H : T Blk) : List (Nat × Oper × T AV × AV) -> Bool
 | [] => true
 | p :: r => (bit d p.1 || vG E ih nx H p.2.1 p.2.2.1 p.2.2.2) && vH d nx H r
def reads (d nx : Nat) (o : Oper) (tv : T AV) (v : AV) : List (Nat × T Blk) -> Bool
 | [] => true
 | p :: r => (bit d p.1 || vG E ih nx p.2 o tv v) && reads d nx o tv v r
def Gj (n lo j d : Nat) (o : Oper) (s : DS) : Option DS :=
 match zJl o with
 | true =>
  ck (chain d s.hist) (ob (iO E ih lo o (view s.tm (tmpsOf o.op.operands.toList)) ⟨T.union (bU d s.pend).1 s.H, s.nx⟩) fun r => ob (dI n s.tm o.dst r.1) fun tm =>
   ck (Nat.ble s.nx r.2.nx && vH E ih d r.2.nx r.2.H s.past) (some { tm, H := r.2.H, nx := r.2.nx, pend := (bU d s.pend).2, hist := (j, s.H) :: s.hist, past := s.past }))
 | false =>
  match iO E ih s.nx o (view s.tm (tmpsOf o.op.operands.toList)) ⟨.nil, s.nx⟩ with
  | some (v, A1) => ob (dI n s.tm o.dst v) fun tm => ck (Nat.ble s.nx A1.nx && T.all Blk.lone A1.H) (some { s with tm, nx := A1.nx, pend := (j, A1.H) :: s.pend })
  | none =>
   ob (iO E ih s.nx o (view s.tm (tmpsOf o.op.operands.toList)) ⟨s.H, s.nx⟩) fun r => ob (dI n s.tm o.dst r.1) fun tm =>
    ck (Nat.beq r.2.nx s.nx && AV.under s.nx r.1 && reads E ih d s.nx o (view s.tm (tmpsOf o.op.operands.toList)) r.1 s.hist)
     (some { s with tm, past := (j, o, view s.tm (tmpsOf o.op.operands.toList), r.1) :: s.past })
def xI (n lo : Nat) (ops : List Oper) (j d : Nat) (o : Oper) (s : DS) : Option DS :=
 match o.guard with
 | none => note (o.pos ++ " drawn") (Gj E ih n lo j d o s)
 | some (i, want) => ck (bit d i) (ob (aO ops i) fun t => ob (s.tm.get t) fun v => match v with
  | .bo b => cnd (b == want) (Gj E ih n lo j d o s) (ob (dI n s.tm o.dst (.tu [])) fun tm => some { s with tm })
  | .tu [] => ob (dI n s.tm o.dst (.tu [])) fun tm => some { s with tm }
  | _ => none)
def qZ (n lo : Nat) (ops : List Oper) : Nat -> List Nat -> List Oper -> DS -> Option DS
 | _, _, [], s => some s
 | _, [], _ :: _, _ => none
 | j, d :: ds, o :: r, s => ob (xI E ih n lo ops j d o s) fun s => qZ n lo ops (j + 1) ds r s
def Dm (n lo : Nat) (ops : List Oper) (tm : T AV) (A : W) : Option (Ex × T AV × W) :=
 ob (oM [] ops) fun ds => ck (zDj ops ds) (ob (qZ E ih n lo ops 0 ds ops ⟨tm, A.H, A.nx, [], [], []⟩) fun s =>
  some (.normal, s.tm, ⟨mF s.pend s.H, s.nx⟩))
def vI : Runs := fun n lo sc c tm A =>
 match sc with
 | .sc a => ob (ih n lo .pl c tm A) fun x => match x with
  | (.goto l, tm', A') => match findLabel a l with
   | some rest => ih n lo (.sc a) rest tm' A'
   | none => some x
  | x => some x
 | .lp a => ob (ih n lo .pl c tm A) fun x => match x with
  | (.normal, tm', A') => ih n lo (.lp a) a tm' A'
  | x => some x
 | .pl => match c with
 | .skip | .label _ => some (.normal, tm, A)
 | .region _ ops dr => match dr with
  | false => kG E ih n lo ops.toList ops.toList tm A
  | true => Dm E ih n lo ops.toList tm A
 | .seq a b => ob (ih n lo .pl a tm A) fun x => match x with
  | (.normal, tm, A) => ih n lo .pl b tm A
  | x => some x
 | .cond c a b => ob (ev tm c) fun v => match v with
  | .bo true => ih n lo .pl a tm A
  | .bo false => ih n lo .pl b tm A
  | _ => none
 | .block id a => ob (ih n lo .pl a tm A) fun x => match x with
  | (.exit i, tm, A) => some (cnd (Nat.beq i id) .normal (.exit i), tm, A)
  | x => some x
 | .loop a => ih n lo (.lp a) a tm A
 | .scope a => ih n lo (.sc a) a tm A
 | .exit id => some (.exit id, tm, A)
 | .goto l => some (.goto l, tm, A)
 | .ret => some (.ret, tm, A)
 | _ => none
end
def run (E : Env) (fuel : Nat) : Runs := @Nat.rec (fun _ => Runs) (fun _ _ _ _ _ _ => none) (fun _ ih => vI E ih) fuel
def call (E : Env) (fuel lo : Nat) (f : FuncId) (args : List AV) (A : W) : Option (Out × W) := vF E (run E fuel) lo f args A
end Go.Ce
