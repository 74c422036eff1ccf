/- The law of LinkLines over plain functions. No statement is proved here. -/
import Derived.Test.YtpehkjgbhnegmaaLinkHoldsLaw
namespace Go.Dec

/-- What a push makes of the bytes, and whether a byte 10 comes ahead of the next. -/
def pushS (x : List UInt8 × Bool) (e : Line) : List UInt8 × Bool := (x.1 ++ (if x.2 then [10] else []) ++ e.1 ++ (if e.2.1 then [10] else []), !e.2.1)
def datS (l : List Line) : List UInt8 × Bool := l.foldl pushS ([], false)
theorem datS_mid (l : List Line) (e : Line) : datS (l ++ [e]) = pushS (datS l) e := by simp [datS]

theorem pushS_len (x : List UInt8 × Bool) (e : Line) (h : e.1.length ≤ 60) : (pushS x e).1.length ≤ x.1.length + 62 := by
  unfold pushS
  simp only [List.length_append]
  split <;> split <;> simp <;> omega
theorem foldS_len : ∀ (l : List Line) (x : List UInt8 × Bool), (∀ e ∈ l, e.1.length ≤ 60) → (l.foldl pushS x).1.length ≤ x.1.length + 62 * l.length
  | [], x, _ => by simp
  | e :: l, x, h => by
    have h1 := pushS_len x e (h e (.head _))
    have h2 := foldS_len l (pushS x e) fun q hq => h q (.tail _ hq)
    simp only [List.foldl_cons, List.length_cons]
    omega
theorem datS_len (l : List Line) (h : ∀ e ∈ l, e.1.length ≤ 60) : (datS l).1.length ≤ 62 * l.length := by
  have := foldS_len l ([], false) h
  simpa [datS] using this

theorem WriteString_eq {n : Nat} {s : List UInt8} {row : List Int} (h : row.length + s.length ≤ 1000000) : strings_Builder_WriteString n (s, row, ()) = some ((s.length : Int), false, row ++ sToBytes s, ()) := by
  unfold strings_Builder_WriteString
  simp only [Builder_check, ob_s]
  rw [chk_of (by rw [Nat.ble_eq]; simp [room]; omega)]

theorem bytes_back (d : List UInt8) : bytesToS (sToBytes d) = d := by
  unfold bytesToS sToBytes
  rw [List.map_map]
  have : ((fun n : Int => UInt8.ofNat n.toNat) ∘ fun b : UInt8 => (b.toNat : Int)) = id := by
    funext b
    simp
  rw [this, List.map_id]

theorem String_eq {n : Nat} (d : List UInt8) : Builder_String n (sToBytes d, ()) = some (d, [], ()) := by
  unfold Builder_String
  rw [chk_of, bytes_back]
  simp only [sToBytes, List.all_map, List.all_eq_true]
  intro b _
  have := b.toNat_lt
  simp
  omega

theorem sToBytes_app (a b : List UInt8) : sToBytes (a ++ b) = sToBytes a ++ sToBytes b := by simp [sToBytes]
theorem sToBytes_len (a : List UInt8) : (sToBytes a).length = a.length := by simp [sToBytes]

theorem bank_Bytes_go {n : Nat} {l : List Line} (hl : l.length ≤ 100) (ht : ∀ e ∈ l, e.1.length ≤ 60) : ∀ (r pre : List Line) (m : Nat), l = pre ++ r → r.length < m →
    fix (bank_Bytes_loop0 n) m ((if (datS pre).2 then [10] else []), l, (l.length : Int), (pre.length : Int), sToBytes (datS pre).1, ()) = some (datS l).1 := by
  intro r
  induction r with
  | nil =>
    intro pre m hp hm
    have hp : pre = l := by simpa using hp.symm
    subst hp
    rw [fix_pos (by omega), bank_Bytes_loop0]
    simp only
    rw [br_not (by simp), String_eq, ob_s]
  | cons e r ih =>
    intro pre m hp hm
    have hm' : r.length + 1 < m := hm
    have hlen : l.length = pre.length + r.length + 1 := by rw [hp]; simp; omega
    have hd : (datS pre).1.length ≤ 62 * pre.length := datS_len pre fun q hq => ht q (by rw [hp]; exact List.mem_append_left _ hq)
    have he : e.1.length ≤ 60 := ht e (by rw [hp]; simp)
    have hg : (if (datS pre).2 then [10] else [] : List UInt8).length ≤ 1 := by split <;> simp
    have hi := ih (pre ++ [e]) (m - 1) (by rw [hp]; simp) (by omega)
    rw [datS_mid] at hi
    rw [fix_pos (by omega), bank_Bytes_loop0]
    simp only
    rw [br_of (decide_eq_true (by omega)), chk_of (inBn (by omega)), getAt_mid hp, chk_of (decide_eq_true (by simp [maxStr]; omega)),
      WriteString_eq (by rw [sToBytes_len]; simp; omega), ob_s]
    simp only
    rw [wrapI (by omega) (by omega)]
    rw [show ((pre ++ [e]).length : Int) = (pre.length : Int) + 1 by simp] at hi
    cases hE : e.2.1
    · rw [br_f]
      simp only [pushS, hE] at hi
      rw [show sToBytes (datS pre).1 ++ sToBytes ((if (datS pre).2 = true then [10] else []) ++ e.1) = sToBytes ((datS pre).1 ++ (if (datS pre).2 = true then [10] else []) ++ e.1 ++ (if false = true then [10] else [])) by simp [sToBytes_app]]
      simpa using hi
    · rw [br_t, WriteString_eq (by simp [sToBytes_len]; omega), ob_s]
      simp only [pushS, hE] at hi
      rw [show sToBytes (datS pre).1 ++ sToBytes ((if (datS pre).2 = true then [10] else []) ++ e.1) ++ sToBytes [10] = sToBytes ((datS pre).1 ++ (if (datS pre).2 = true then [10] else []) ++ e.1 ++ (if true = true then [10] else [])) by simp [sToBytes_app]]
      simpa using hi

theorem bank_Bytes_eq {n : Nat} {l : List Line} (hl : l.length ≤ 100) (ht : ∀ e ∈ l, e.1.length ≤ 60) (hn : l.length < n) : bank_Bytes n l = some (datS l).1 := by
  have := bank_Bytes_go (n := n) hl ht l [] n rfl hn
  simpa [bank_Bytes, datS, sToBytes] using this
end Go.Dec
