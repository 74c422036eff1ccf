/- Part of a proof over this seat: a library of my own, and what it says of this seat. No statement is proved here. -/
import Derived.Test.YthhbdkdofhhoeaaGreatDoorPartBI
namespace Go.Dec
open Go.Proofs
set_option linter.unusedVariables false
def law04_BrePlacesAn (n : Nat) : An (Dens law04_BrePlacesR) := .nil
theorem law04_BrePlaces_pure (n : Nat) : Pure Tryz.prog 8 law04_BrePlacesA law04_BrePlacesR (law04_BrePlaces n) :=
  pure_of (Γ := orcG _ [(16, peOf law04_shownA law04_shownR (law04_shown n)), (20, peOf bre_ParseA bre_ParseR (bre_Parse n))] []) (an := law04_BrePlacesAn n) Tryz.func8 rfl (by kernel_rfl) tab_ok (orcG_ok (all_cons (peOf_ok (law04_shown_pure n)) (all_cons (peOf_ok (bre_Parse_pure n)) (all_nil))) (alg_nil)) mixed (plain_ok _ _ rfl) (fun x => by kernel_rfl)
end Go.Dec
