/- table.place, told as a function of data, against its code. No statement is proved here. -/
import Derived.Test.YtpehkjgbhnegmaaPlTies
import Derived.Test.YtpehkjgbhnegmaaPlaceFuns
namespace Go.Dec
abbrev table_placeA : List Ty := [.slice (.pair .str (.pair .str .unit)), .str, .opq]
abbrev table_placeR : List Ty := [.int .i64, .bool]
def placeOut (y : pl_table_place_File__table_nameO.X) : Dens table_placeR := (y.1, y.2.1)
def placeIn (x : Dens table_placeA) : Option pl_table_place_File__table_nameI.X := placeConv x
theorem place_in (x : Dens table_placeA) (z : pl_table_place_File__table_nameI.X) (hz : placeIn x = some z) : (pl_table_place_File__table_nameI.enc z).h = [] ∧ ∀ (β : Nat → Pl) (w : World) (N : Nat → Prop) (us : List Value), ArgsRel β w N (encVs table_placeA x) us → ArgsRel β w N (pl_table_place_File__table_nameI.enc z).r us := by
  obtain ⟨l, nm, v⟩ := x
  unfold placeIn placeConv at hz
  simp only at hz
  split at hz
  · rename_i f a0 b0 hv
    split at hz
    · rename_i hc
      obtain ⟨rfl, ha, hb⟩ := hc
      have ha := Array.eq_empty_of_size_eq_zero ha
      have hb := Array.eq_empty_of_size_eq_zero hb
      subst ha hb
      obtain rfl := Option.some.inj hz
      refine ⟨rfl, fun β w N us h => ?_⟩
      match us, h with
      | [a, b, c], ⟨h1, h2, h3, _⟩ =>
        refine ⟨h1, h2, ?_, trivial⟩
        simp only [vOf, Ty.isAgg, V.Rel, L.Rel, Ty.Rel, List.cons.injEq, and_true] at h3
        obtain ⟨h3, _⟩ := h3
        exact ⟨[], by rw [h3], rfl⟩
    · cases hz
  · cases hz

theorem table_place_pure (n : Nat) : Pure Go.Proofs.Try.prog 51 table_placeA table_placeR (table_place n) := by
  have h := pure_of_meets (conv := placeIn) (out := placeOut) (pl_table_place_File__table_name_meets n) place_in (fun y => ⟨_, rfl, rfl⟩)
  refine ⟨h.1, fun x y hF => h.2 x y ?_⟩
  unfold table_place at hF
  unfold placeIn placeOut
  cases hp : placeConv x with
  | none => simp only [hp] at hF; cases hF
  | some z =>
    cases hq : pl_table_place_File__table_name n z with
    | none => simp only [hp, hq] at hF; cases hF
    | some q => simp only [hp, hq] at hF ⊢; exact hF
end Go.Dec
