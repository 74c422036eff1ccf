/- The part W: a statement about a law, out of a plain function. No statement is proved here. -/
import Derived.Test.YtpehkjgbhnegmaaDecV
import Derived.Shelf.Vars
namespace Go.Dec
open Go.ChangeShapes Go.WideShapes Go.ChangeAt Go.RowKit

theorem trodAll_len {H : Type} {enc : TypeId × Value → H} {P : Program} {w : World} {base : Nat} {spare : Nat → Bool} {held : Bool} : ∀ {ts : List TypeId} {vs : List Value} {ds : List (DataW H)} {ps : List MemPlace}, DataW.TrodAll enc P w base spare held ts vs ds ps → ds.length = ts.length
  | [], [], [], _, _ => rfl
  | _ :: _, _ :: _, _ :: _, _, ⟨_, _, _, h, _⟩ => by simp [trodAll_len h]
  | [], [], _ :: _, _, h => by simp [DataW.TrodAll] at h
  | [], _ :: _, _, _, h => by simp [DataW.TrodAll] at h
  | _ :: _, [], _, _, h => by simp [DataW.TrodAll] at h
  | _ :: _, _ :: _, [], _, h => by simp [DataW.TrodAll] at h

theorem law_contract {H : Type} {enc : TypeId × Value → H} {P : Program} {f : FuncId} {fn : Func} {s : ChangeSpec} {apart fresh handsOn : Bool} {as : List Ty} {F : Dens as → Option Bool} {tb : TypeId}
    (hres : fn.resultTypes = #[tb]) (hb : P.underlying tb = some .bool) (hts : fn.params.toList.map (tyOf P 12) = as.map some) (hlay : fn.params.toList.all (layOK P 12) = true) (hread : (fn.params.toList.all fun t => P.readableRec t && decide (t < P.types.size)) = true)
    (hl : laidOutB P = true) (hvars : s.vars = []) (hs : ∀ ds : List (DataW H), ds.length = fn.params.toList.length → (s.fn H ds).results = [.lit (.bool true)] ∧ (s.fn H ds).args = ds ∧ (s.fn H ds).vars = [])
    (hP : Pure P f as [.bool] F) (hF : ∀ x, DensWF as x → F x = some true)
    {W : World} {base : Nat} {args : Array Value} {ds gs : List (DataW H)} {before : List MemPlace} (hG : Glob P W)
    (hval : ∀ (j : Nat) t v, fn.params[j]? = some t → args[j]? = some v → Value.okWide P W .any base t v) (hW : DataW.Whole enc P fn.params.toList s.vars apart W args.toList ds gs before) :
    Calls P f args W fun e W' => ∃ v, e = .returned v ∧ s.post enc P fn apart fresh handsOn false W args v W' := by
  have hW' := hW
  obtain ⟨p, q, hA, hV, rfl, _, _⟩ := hW
  rw [hvars] at hV
  obtain ⟨rfl, rfl⟩ := trodVars_none hV
  obtain ⟨x, hx, hwf⟩ := dens_of_trod hts hlay hA (fun j t v h1 h2 => hval j t v (by simpa using h1) (by simpa using h2))
  have hlt : ∀ z ∈ p, z.block < W.heap.size := fun z hz => by simpa using hW'.lt z (by simpa using hz)
  have := hP.2 x true (hF x hwf) W N0 args.toList hG (fun _ h => h.elim) hx
  rw [Array.toArray_toList] at this
  refine this.mono ?_
  rintro e W' ⟨us, rfl, ho, ht, hop, hk, hr⟩
  obtain ⟨u, rfl, hu⟩ := hr
  simp only [Ty.VRel, Ty.isAgg, Bool.false_eq_true, if_false, Ty.Rel, List.cons.injEq, and_true] at hu
  subst hu
  have hbel : Below W.heap.size W W' := ⟨ho, ht, hop, hk.size, fun k hk' => hk.block k hk' (fun h => h)⟩
  obtain ⟨s1, s2, s3⟩ := hs (ds ++ []) (by rw [List.append_nil]; exact trodAll_len hA)
  refine ⟨.bool true, rfl, ds, [], p ++ [], [], p, [], hW', ?_, ?_, ?_, hbel.frame _, fun h => by cases h⟩
  · rw [s1, hres]
    exact trodAll_mk1 (shut_bool hb true)
  · rw [s2, List.append_nil]
    exact trodAll_below hl hbel hread hA hlt
  · rw [s3, hvars]
    rfl
end Go.Dec
