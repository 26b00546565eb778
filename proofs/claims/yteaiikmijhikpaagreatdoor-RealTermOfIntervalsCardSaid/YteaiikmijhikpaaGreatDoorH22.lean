/- The parts of this text are lemmas and contracts of functions, proved for every input that their preconditions allow; the conditions stand in each statement. -/
import Derived.Test.YteaiikmijhikpaaGreatDoorH19
import Derived.Test.YteaiikmijhikpaaGreatDoorH20
set_option linter.all false
section
namespace Go.Proofs.YteaiikmijhikpaaGreatDoor
open Go.ChangeShapes Go.WideShapes Go.ChangeAt Go.WideMaps Go.WideElems Go.RowKit
open Go Go.Sx
set_option maxRecDepth 100000
theorem shs8 : shsOf Tryz.prog Tryz.f8.params.toList = some s8.con.ps := by kernel_rfl
theorem res8 : Tryz.f8.resultTypes = #[4] := by kernel_rfl
theorem bool4 : Tryz.prog.underlying 4 = some .bool := by kernel_rfl
theorem par8 : (Tryz.f8.params.toList.all fun t => Tryz.prog.readableRec t && decide (t < Tryz.prog.types.size)) = true := by kernel_rfl
theorem lifted8 (os : Os) (started : os.Started) (H : Type) (enc : TypeId × Value → H) :
    ReturnsInHanded {} Tryz.checked os 8 .any (fun w args => (Rows.realTermOfIntervalsSpec.pre enc Tryz.prog Tryz.f8 [] false w args ∧ laidMetH Tryz.prog laidL w) ∧ sizedMet enc Tryz.prog Tryz.f8 (OpenSpec.ofChange Rows.realTermOfIntervalsSpec) false w args)
      (Rows.realTermOfIntervalsSpec.post enc Tryz.prog Tryz.f8 false true false false) := by
  refine returnsInHanded_of_change_and (C := Tryz.checked) (X := fun w _ => laidMetH Tryz.prog laidL w) (fun _ _ _ hh h => h.of_heap hh) ownK started (by kernel_rfl) Tryz.func8
    (ChangeSpec.witness_shaped (enc := enc) (C := Tryz.checked) (os := os) (X := fun w _ => laidMetH Tryz.prog laidL w) false (World.doorLaid Tryz.prog 400 os) #[.int .i64 0, .agg #[.int .i64 0, .int .i64 0, .int .i64 0, .int .i64 0], .agg #[.int .i64 0, .int .i64 0, .int .i64 0, .int .i64 0]] 8 rfl (World.shaped_of_RefB (by kernel_rfl) (by kernel_rfl)) (by kernel_rfl) (by kernel_rfl) (by kernel_rfl) (door_met os _)) ?_
  intro W base args ds gs before hval0 hW _ _ hL _
  match ds, hW with
  | [d0, d1, d2], hW => exact law_calls s8_ok.1 shs8 rfl (fun _ => rfl) (fun _ => trivial) hval0 hW rfl rfl res8 bool4 laidOutT par8 (glob_of_laid hL)
  | [], hW => exact absurd (trodAll_len hW) (by rw [show Tryz.f8.params.toList.length = 3 by kernel_rfl]; simp)
  | [_], hW => exact absurd (trodAll_len hW) (by rw [show Tryz.f8.params.toList.length = 3 by kernel_rfl]; simp)
  | [_, _], hW => exact absurd (trodAll_len hW) (by rw [show Tryz.f8.params.toList.length = 3 by kernel_rfl]; simp)
  | _ :: _ :: _ :: _ :: _, hW => exact absurd (trodAll_len hW) (by rw [show Tryz.f8.params.toList.length = 3 by kernel_rfl]; simp)
theorem realTermOfIntervals_said : Rows.RealTermOfIntervalsSaid :=
  OpenClaim.holds_of_wide 8 Tryz.f8 rfl rfl rfl rfl rfl rfl rfl ⟨rfl, rfl, rfl, rfl, rfl⟩ rfl rfl rfl rfl rfl (by kernel_rfl) Tryz.func8 (by kernel_rfl)
    (of_decide_eq_true (by kernel_rfl)) (by unfold Func.isWrapper; rw [if_neg (of_decide_eq_false (by kernel_rfl))]; exact ⟨rfl, rfl⟩)
    (fun os started H enc _ => lifted8 os started H enc)
theorem realTermOfIntervals_holds : Rows.RealTermOfIntervalsCardSaid :=
  Claim7.holds_tied_plain_at .later [] [.data, .data] true (true, "59a9bbd5b530f4e847b20eb832b9f72e55083cecb86e93c69d96dc6c6e9fa37b") false
    realTermOfIntervals_said (fun _ h => by cases h) (by kernel_rfl) (fun _ h => by cases h) realTermOfIntervals_row_tie rfl ⟨rfl, rfl⟩ (by kernel_rfl) rfl
    (fun f fn hf hfn => by
      obtain rfl : f = 8 := Option.some.inj ((show Tryz.prog.funcNamed "compositor/compositorlaw29.RealTermOfIntervals" = some 8 by kernel_rfl).symm.trans hf) |>.symm
      obtain rfl : fn = Tryz.f8 := (Option.some.inj (Tryz.func8.symm.trans hfn)).symm
      have hall : (Tryz.f8.params.toList.all fun u => !Tryz.prog.wantsStandIn u) = true := by kernel_rfl
      exact ⟨by kernel_rfl, fun j t ht => by
        have hm : t ∈ Tryz.f8.params.toList := by simpa using Array.mem_of_getElem? ht
        exact (show Tryz.prog.wantsStandIn t = false by simpa using List.all_eq_true.1 hall t hm)⟩)
    (by kernel_rfl)
#print axioms realTermOfIntervals_holds
end Go.Proofs.YteaiikmijhikpaaGreatDoor
end
