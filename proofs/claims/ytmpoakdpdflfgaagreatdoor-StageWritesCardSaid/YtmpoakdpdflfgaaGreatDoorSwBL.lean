/- Part of a proof over this seat: a library of my own, and what it says of this seat. No statement is proved here. -/
import Derived.Test.YtmpoakdpdflfgaaGreatDoorSwBE
import Derived.Test.YtmpoakdpdflfgaaGreatDoorSwAJ
import Derived.Test.YtmpoakdpdflfgaaGreatDoorSwBA
import Derived.KernelRfl
namespace Go.Dec
open Go.Proofs Go.RowKit
end Go.Dec
namespace Go.Dec
open Go.Proofs Go.RowKit
theorem grownBy_drew (w:World) (r:Option Nat):w.grownBy w.drew r:=⟨rfl,rfl,rfl,Nat.le_refl _,fun _ _ _=>rfl⟩
theorem grow_trans {a b c:World} {r:Option Nat} (h:a.grownBy b r) (h':b.grownBy c r):a.grownBy c r :=
 ⟨h'.os.trans h.os,h'.tape.trans h.tape,h'.output.trans h.output,Nat.le_trans h.size h'.size,fun k hk hne=>(h'.block k (Nat.lt_of_lt_of_le hk h.size) hne).trans (h.block k hk hne)⟩
theorem grownBy_freeze (w:World) (g n:Nat):w.grownBy (w.freeze ⟨g,0,none⟩ n) (some g):=by
 unfold World.freeze
 split
 ·exact ⟨rfl,rfl,rfl,Nat.le_refl _,fun _ _ _=>rfl⟩
 ·refine ⟨rfl,rfl,rfl,by simp,fun k hk hne=>?_⟩
  simp only [Array.getElem?_modify]
  rw [if_neg (fun e=>hne (by rw [e]))]
set_option maxHeartbeats 1000000 in
set_option maxRecDepth 100000 in
theorem str_full (b g cap:Nat) (p:Value) (cur:Array Value) (l:List UInt8) (w:World) (h0:l ≠ []) (hbk:w.heap[b]?=some (.cells #[p,.slice (some ⟨g,0,none⟩) l.length cap] 89 (0,0)))
  (hg:w.heap[g]?=some (.cells cur 5 (0,0))) (hnc:l.length <= cap) (hcm:cap <= maxLen) (hcs:cur.size=cap) (htake:cur.toList.take l.length=Lib.byteCells l) :
  Calls Tryz.prog 29 #[.pointer (some ⟨b,0,none⟩)] w fun e w'=>e=.returned (.string ⟨l.toArray⟩)∧w.grownBy w' (some g):=by
 have hl0:l.length ≠ 0:=by simpa using h0
 have c1:w.drew.cell? ⟨b,1,none⟩=some (.slice (some ⟨g,0,none⟩) l.length cap):=by
  have:w.drew.heap[b]?=some (.cells #[p,.slice (some ⟨g,0,none⟩) l.length cap] 89 (0,0)):=hbk
  rw [Lib.cell_of_heap this]; rfl
 have hSD:(Builtin.unsafeSliceData_ #[87] 139 #[.slice (some ⟨g,0,none⟩) l.length cap]).run Tryz.prog w.drew=.ok (.pointer (some ⟨g,0,none⟩)) w.drew :=
  Lib.run_unsafeSliceData_row _ _ _ _ _ _ (by omega)
 have hUS:(Builtin.unsafeString_ #[139,3] 9 #[.pointer (some ⟨g,0,none⟩),.int .i64 l.length]).run Tryz.prog w.drew=.ok (.string ⟨l.toArray⟩) (w.drew.freeze ⟨g,0,none⟩ l.length):=by
  refine Lib.run_unsafeString_row w.drew 139 3 9 5 Tryz.underlying139 (by kernel_rfl) g cur.size (by have hg':w.drew.heap[g]?=some (.cells cur 5 (0,0)):=hg; simp [World.shape?,hg']) l h0 (by omega) (by unfold maxLen at hcm; omega) ?_
  intro j x hx
  have hj:j < l.length:=(List.getElem?_eq_some_iff.1 hx).1
  have h1:cur[j]?=some (.int .u8 x.toNat):=by
   have h2:(cur.toList.take l.length)[j]?=some (.int .u8 x.toNat):=by rw [htake]; simp [Lib.byteCells,hx]
   rw [List.getElem?_take,if_pos hj] at h2
   simpa using h2
  have hg':w.drew.heap[g]?=some (.cells cur 5 (0,0)):=hg
  rw [addr_add,Lib.cell_of_heap hg']
  simpa using h1
 have mixed:Tryz.prog.follows .mixedOrders=true:=by kernel_rfl
 go_enter Tryz.func29,Tryz.ntmps29
 go_wp2
 go_region_o
 all_goals (go_wp2; go_ret; exact ⟨rfl,grow_trans (grownBy_drew w _) (grownBy_freeze _ _ _)⟩)
theorem str_none (W:World) (q:Option Addr):(Builtin.unsafeString_ #[139,3] 9 #[.pointer q,.int .i64 0]).run Tryz.prog W=.ok (.string .empty) W:=Lib.run_unsafeString_none W _ _ _ q
set_option maxHeartbeats 2000000 in
set_option maxRecDepth 100000 in
theorem str_nil (b:Nat) (r:Option Nat) (p:Value) (w:World) (hbk:w.heap[b]?=some (.cells #[p,.slice none 0 0] 89 (0,0))) :
  Calls Tryz.prog 29 #[.pointer (some ⟨b,0,none⟩)] w fun e w'=>e=.returned (.string ⟨#[]⟩)∧w.grownBy w' r:=by
 have hUS:=str_none
 have c1:w.drew.cell? ⟨b,1,none⟩=some (.slice none 0 0):=by
  have:w.drew.heap[b]?=some (.cells #[p,.slice none 0 0] 89 (0,0)):=hbk
  rw [Lib.cell_of_heap this]; rfl
 have hSD:(Builtin.unsafeSliceData_ #[87] 139 #[.slice none 0 0]).run Tryz.prog w.drew=.ok (.pointer none) w.drew:=rfl
 have mixed:Tryz.prog.follows .mixedOrders=true:=by kernel_rfl
 go_enter Tryz.func29,Tryz.ntmps29
 go_wp2
 go_region_o
 all_goals (go_wp2; go_ret; exact ⟨rfl,grownBy_drew w _⟩)
end Go.Dec
