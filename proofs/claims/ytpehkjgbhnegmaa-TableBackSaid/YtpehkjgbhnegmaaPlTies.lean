/- That the code of this seat does what the plain functions say: printed by my decompiler, checked by the kernel. No statement is proved here. -/
import Derived.Test.YtpehkjgbhnegmaaProg
import Derived.Test.YtpehkjgbhnegmaaPlFuns
import Derived.Test.YtpehkjgbhnegmaaLibTies
import Derived.Test.YtpehkjgbhnegmaaTSplit
import Derived.Test.YtpehkjgbhnegmaaBuildTies
import Derived.Test.YtpehkjgbhnegmaaStrTies
import Derived.KernelRfl
namespace Go.Dec
open Go.Proofs
set_option linter.unusedVariables false

def pl_tab : Tab := [(3, ⟨.int .i64, 1, 8, [.val (.int .i64) 0], some (.int .i64), false⟩),
  (4, ⟨.bool, 1, 1, [.val .bool false], some .bool, false⟩),
  (9, ⟨.str, 1, 16, [.val .str []], some .str, false⟩),
  (51, ⟨.slice 62, 1, 24, [.nils], some (.slice pl_TSssE), false⟩),
  (62, ⟨.struct [(0, 9), (1, 9)], 2, 32, [.val .str [], .val .str []], some pl_TSssE, true⟩),
  (90, ⟨.func, 1, 8, [.val .opq Value.nilFunc], some .opq, false⟩),
  (95, ⟨.func, 1, 8, [.val .opq Value.nilFunc], some .opq, false⟩)]
theorem pl_tab_ok : TabOK Try.prog pl_tab := tabOK_of (by kernel_rfl)
theorem pl_mixed : Try.prog.follows .mixedOrders = true := by kernel_rfl

abbrev pl_table_nameA : List Ty := [pl_TSssE]
abbrev pl_table_nameR : List Ty := [.str]
abbrev pl_table_place_File_1I : Sh := ⟨3, [⟨0, true, [.v .str, .v .str]⟩, ⟨1, false, [.ptr 0 0]⟩, ⟨2, false, [.ptr 1 0]⟩], [.box 95 [.clo 52 []], .box 9 [.v .str]]⟩
abbrev pl_table_place_File_1O : Sh := ⟨1, [⟨0, false, [.v .bool]⟩], [.box 95 [.clo 52 []], .box 9 [.v .str]]⟩
abbrev pl_slices_IndexFunc_File__table_place_File_1I : Sh := ⟨2, [⟨0, false, [.v (.slice pl_TSssE)]⟩, ⟨1, false, [.clo 58 [(0, 0), (1, 0)]]⟩], [.box 95 [.clo 52 []], .box 9 [.v .str]]⟩
abbrev pl_slices_IndexFunc_File__table_place_File_1O : Sh := ⟨1, [⟨0, false, [.v (.int .i64)]⟩], [.box 95 [.clo 52 []], .box 9 [.v .str]]⟩
abbrev pl_table_place_File__table_nameI : Sh := ⟨3, [⟨0, false, [.v (.slice pl_TSssE)]⟩, ⟨1, false, [.v .str]⟩, ⟨2, false, [.clo 52 []]⟩], []⟩
abbrev pl_table_place_File__table_nameO : Sh := ⟨2, [⟨0, false, [.v (.int .i64)]⟩, ⟨1, false, [.v .bool]⟩], []⟩

/-- calender/table.name -/
def pl_table_nameAn (n : Nat) : An (Dens pl_table_nameR) := .nil
theorem pl_table_name_pure (n : Nat) : Pure Try.prog 52 pl_table_nameA pl_table_nameR (pl_table_name n) :=
  pure_of (Γ := orcG _ [] []) (an := pl_table_nameAn n) Try.func52 rfl (by kernel_rfl) pl_tab_ok (orcG_ok (all_nil) alg_nil) pl_mixed (plain_ok _ _ rfl) (fun x => by kernel_rfl)

/-- calender/table.place[calender/table.File]$1 -/
def pl_table_place_File_1An (n : Nat) : An (pl_table_place_File_1O.X) := .nil
theorem pl_table_place_File_1_meets (n : Nat) : Meets Try.prog 58 pl_table_place_File_1I pl_table_place_File_1O (pl_table_place_File_1 n) :=
  meets_of (Γ := orcG _ [(52, peOf pl_table_nameA pl_table_nameR (pl_table_name n))] []) (an := pl_table_place_File_1An n) (co := [.gc [0, 1]]) Try.func58 rfl (by kernel_rfl) pl_tab_ok (orcG_ok (all_cons (peOf_ok (pl_table_name_pure n)) (all_nil)) alg_nil) pl_mixed (plain_ok _ _ rfl) (by kernel_rfl) (by kernel_rfl) (fun x => by kernel_rfl)

/-- slices.IndexFunc[[]calender/table.File,calender/table.File] -/
def pl_slices_IndexFunc_File__table_place_File_1An (n : Nat) : An (pl_slices_IndexFunc_File__table_place_File_1O.X) := (.mk .nil (.mk (.mk .nil (.mk (.loop ⟨19, [⟨0, false, [.v (.slice pl_TSssE)]⟩, ⟨1, false, [.clo 58 [(0, 0), (1, 0)]]⟩, ⟨7, false, [.v (.int .i64)]⟩, ⟨8, false, [.v (.int .i64)]⟩], [.box 95 [.clo 52 []], .box 9 [.v .str]]⟩ [.keep [true, true, false, false, false, false, false, true, true], .gc [0, 1]] [.keep [true, true, false, false, false, false, false, true, true], .gc [0, 1]] n .nil) .nil []) []) .nil []) [])
theorem pl_slices_IndexFunc_File__table_place_File_1_meets (n : Nat) : Meets Try.prog 48 pl_slices_IndexFunc_File__table_place_File_1I pl_slices_IndexFunc_File__table_place_File_1O (pl_slices_IndexFunc_File__table_place_File_1 n) :=
  meets_of (Γ := orcG _ [(58, peM pl_table_place_File_1I pl_table_place_File_1O (pl_table_place_File_1 n))] []) (an := pl_slices_IndexFunc_File__table_place_File_1An n) (co := [.gc [0, 1]]) Try.func48 rfl (by kernel_rfl) pl_tab_ok (orcG_ok (all_cons (peM_ok (pl_table_place_File_1_meets n)) (all_nil)) alg_nil) pl_mixed (plain_ok _ _ rfl) (by kernel_rfl) (by kernel_rfl) (fun x => by kernel_rfl)

/-- calender/table.place[calender/table.File] -/
def pl_table_place_File__table_nameAn (n : Nat) : An (pl_table_place_File__table_nameO.X) := .nil
theorem pl_table_place_File__table_name_meets (n : Nat) : Meets Try.prog 51 pl_table_place_File__table_nameI pl_table_place_File__table_nameO (pl_table_place_File__table_name n) :=
  meets_of (Γ := orcG _ [(48, peM pl_slices_IndexFunc_File__table_place_File_1I pl_slices_IndexFunc_File__table_place_File_1O (pl_slices_IndexFunc_File__table_place_File_1 n)), (52, peOf pl_table_nameA pl_table_nameR (pl_table_name n))] []) (an := pl_table_place_File__table_nameAn n) (co := [.gc []]) Try.func51 rfl (by kernel_rfl) pl_tab_ok (orcG_ok (all_cons (peM_ok (pl_slices_IndexFunc_File__table_place_File_1_meets n)) (all_cons (peOf_ok (pl_table_name_pure n)) (all_nil))) alg_nil) pl_mixed (plain_ok _ _ rfl) (by kernel_rfl) (by kernel_rfl) (fun x => by kernel_rfl)

end Go.Dec
