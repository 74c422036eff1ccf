/- Part of a proof over this seat: a library of my own, and what it says of this seat. No statement is proved here. -/
import Derived.Test.YthhbdkdofhhoeaaGreatDoorPartBG
namespace Go.Dec
open Go.Proofs
set_option linter.unusedVariables false
def law04_shownAn (n : Nat) : An (Dens law04_shownR) := .nil
theorem law04_shown_pure (n : Nat) : Pure Tryz.prog 16 law04_shownA law04_shownR (law04_shown n) :=
  pure_of (Γ := orcG _ [(20, peOf bre_ParseA bre_ParseR (bre_Parse n)), (25, peOf bre_PrintA bre_PrintR (bre_Print n)), (40, peOf rx_GroupsA rx_GroupsR (rx_Groups n)), (41, peOf rx_RefsA rx_RefsR (rx_Refs n))] []) (an := law04_shownAn n) Tryz.func16 rfl (by kernel_rfl) tab_ok (orcG_ok (all_cons (peOf_ok (bre_Parse_pure n)) (all_cons (peOf_ok (bre_Print_pure n)) (all_cons (peOf_ok (rx_Groups_pure n)) (all_cons (peOf_ok (rx_Refs_pure n)) (all_nil))))) (alg_nil)) mixed (plain_ok _ _ rfl) (fun x => by kernel_rfl)
end Go.Dec
