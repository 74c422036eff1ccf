/- Part of a proof over this seat: a library of my own, and what it says of this seat. No statement is proved here. -/
import Derived.Test.YtdgneppobefaoaaGreatDoorPartBC
import Derived.Test.YtdgneppobefaoaaGreatDoorPartAW
import Derived.Shelf.Strings.Builder1
namespace Go.Proofs
open Go.Ce Go.RowKit
theorem Tryz.infoBld:(Tryz.prog.info? 78).map (fun i=>(i.zero,i.size,i.bytes))=some (some (.agg #[.pointer none,.slice none 0 0]),2,32):=by kernel_rfl
set_option maxHeartbeats 1000000 in
set_option maxRecDepth 100000 in
theorem Tryz.check_used (b:Nat) (w:World) (h0:w.cell? ⟨b,0,none⟩=some (.pointer (some ⟨b,0,none⟩))) :
  Calls Tryz.prog 54 #[.pointer (some ⟨b,0,none⟩)] w fun e w'=>e=.returned (.tuple #[])∧w'=w:=by
 obtain ⟨j,hj,_⟩:=info_parts Tryz.infoBld
 go_enter Tryz.func54,Tryz.ntmps54
 go_wp2
 rw [Lib.run_neq_ptr_same w _ Tryz.underlying76 hj]
 go_wp2
 go_end0
 exact ⟨rfl,rfl⟩
set_option maxHeartbeats 1000000 in
set_option maxRecDepth 100000 in
theorem Tryz.check_fresh (b:Nat) (w:World) (h0:w.cell? ⟨b,0,none⟩=some (.pointer none)) (hsh:w.shape? b=some (78,2)) (hfz:w.frozen? ⟨b,0,none⟩=false) :
  Calls Tryz.prog 54 #[.pointer (some ⟨b,0,none⟩)] w fun e w'=>e=.returned (.tuple #[])∧w'=w.setCell ⟨b,0,none⟩ (.pointer (some ⟨b,0,none⟩)):=by
 obtain ⟨j,hj,_,hjs,_⟩:=info_parts Tryz.infoBld
 go_enter Tryz.func54,Tryz.ntmps54
 go_wp2
 rw [Lib.run_to_unsafe w ⟨b,0,none⟩ Tryz.underlying76 Tryz.underlying153 hj (by rw [hjs]; decide) hsh (Nat.zero_lt_succ 1)]
 simp only [Result.andThen]
 rw [Oper.upon_value]
 go_wp2
 rw [run_callFunc_extern Tryz.func85 (by kernel_rfl) (by kernel_rfl) (by kernel_rfl) (e:=Extern.AbiNoEscape.same) (by kernel_rfl)]
 rw [Lib.run_noEscape]
 simp only [Result.andThen]
 rw [Oper.upon_value]
 go_wp2
 rw [Lib.run_from_unsafe w ⟨b,0,none⟩ Tryz.underlying153 Tryz.underlying76 hj hsh (by kernel_rfl)]
 simp only [Result.andThen]
 rw [Oper.upon_value]
 go_wp2
 go_end0
 exact ⟨rfl,rfl⟩
theorem Tryz.check_ok (lo:Nat) (A:W) (args:List AV) (v:AV) (A':W) (h:gCC 78 lo A args=some (v,A')):cZ Tryz.prog lo 54 args A (.ret v) A' :=
 zVu (fun xs w=>Tryz.call54 xs w) Tryz.check_used Tryz.check_fresh lo A args v A' h
set_option maxHeartbeats 1000000 in
set_option maxRecDepth 100000 in
theorem Tryz.str_full (b g o cap N:Nat) (p:Value) (l:List UInt8) (w:World) (h0:l ≠ []) (hbk:w.heap[b]?=some (.cells #[p,.slice (some ⟨g,o,none⟩) l.length cap] 78 (0,0)))
  (hsh:w.shape? g=some (5,N)) (hN:o+l.length <= N) (hnc:l.length <= cap) (hcm:cap <= maxLen) (hcell:∀ j x,l[j]?=some x->w.cell? ⟨g,o+j,none⟩=some (.int .u8 x.toNat)) :
  Calls Tryz.prog 26 #[.pointer (some ⟨b,0,none⟩)] w fun e w'=>e=.returned (.string ⟨l.toArray⟩)∧Lx g w w':=by
 have hl0:l.length ≠ 0:=by simpa using h0
 have c1:w.drew.cell? ⟨b,1,none⟩=some (.slice (some ⟨g,o,none⟩) l.length cap):=by
  have:w.drew.heap[b]?=some (.cells #[p,.slice (some ⟨g,o,none⟩) l.length cap] 78 (0,0)):=hbk
  rw [Lib.cell_of_heap this]; rfl
 have hSD:(Builtin.unsafeSliceData_ #[31] 123 #[.slice (some ⟨g,o,none⟩) l.length cap]).run Tryz.prog w.drew=.ok (.pointer (some ⟨g,o,none⟩)) w.drew :=
  Lib.run_unsafeSliceData_row _ _ _ _ _ _ (by omega)
 have hUS:(Builtin.unsafeString_ #[123,3] 9 #[.pointer (some ⟨g,o,none⟩),.int .i64 l.length]).run Tryz.prog w.drew=.ok (.string ⟨l.toArray⟩) (w.drew.freeze ⟨g,o,none⟩ l.length):=by
  refine Ih w.drew 123 3 9 5 Tryz.underlying123 (by kernel_rfl) g o N hsh l h0 hN (by unfold maxLen at hcm; omega) ?_
  intro j x hx
  rw [Addr.add_lit]
  exact hcell j x hx
 have mixed:Tryz.prog.follows .mixedOrders=true:=by kernel_rfl
 go_enter Tryz.func26,Tryz.ntmps26
 go_wp2
 go_region_o
 all_goals (go_wp2; go_ret; exact ⟨rfl,zCq _ _ _ _⟩)
set_option maxHeartbeats 2000000 in
set_option maxRecDepth 100000 in
theorem Tryz.str_nil (b:Nat) (p:Value) (w:World) (hbk:w.heap[b]?=some (.cells #[p,.slice none 0 0] 78 (0,0))) :
  Calls Tryz.prog 26 #[.pointer (some ⟨b,0,none⟩)] w fun e w'=>e=.returned (.string ⟨#[]⟩)∧∃ g,Lx g w w'∧w'.heap=w.heap:=by
 have hUS:∀ (W:World) (q:Option Addr),(Builtin.unsafeString_ #[123,3] 9 #[.pointer q,.int .i64 0]).run Tryz.prog W=.ok (.string .empty) W:=fun W q=>Lib.run_unsafeString_none W _ _ _ q
 have c1:w.drew.cell? ⟨b,1,none⟩=some (.slice none 0 0):=by
  have:w.drew.heap[b]?=some (.cells #[p,.slice none 0 0] 78 (0,0)):=hbk
  rw [Lib.cell_of_heap this]; rfl
 have hSD:(Builtin.unsafeSliceData_ #[31] 123 #[.slice none 0 0]).run Tryz.prog w.drew=.ok (.pointer none) w.drew:=rfl
 have mixed:Tryz.prog.follows .mixedOrders=true:=by kernel_rfl
 go_enter Tryz.func26,Tryz.ntmps26
 go_wp2
 go_region_o
 all_goals (go_wp2; go_ret; exact ⟨rfl,0,⟨rfl,fun _ _=>rfl,fun c e fz h=>⟨fz,h⟩,rfl,rfl,rfl⟩,rfl⟩)
theorem Tryz.str_ok (lo:Nat) (A:W) (args:List AV) (v:AV) (A':W) (h:zKb 78 5 lo A args=some (v,A')):cZ Tryz.prog lo 26 args A (.ret v) A' :=
 zTm (fun xs w=>Tryz.call26 xs w) Tryz.str_nil Tryz.str_full lo A args v A' h
theorem Tryz.mnz_ok (lo:Nat) (A:W) (args:List AV) (v:AV) (A':W) (h:zKa 5 lo A args=some (v,A')):cZ Tryz.prog lo 229 args A (.ret v) A' :=
 zTl (ps:=#[3]) (t:=31) Tryz.func229 (by kernel_rfl) (by kernel_rfl) (by kernel_rfl) (by kernel_rfl) (by kernel_rfl) lo A args v A' h
end Go.Proofs
