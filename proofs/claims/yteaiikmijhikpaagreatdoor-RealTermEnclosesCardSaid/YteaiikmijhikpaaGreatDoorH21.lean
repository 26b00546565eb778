/- The parts of this text are lemmas and contracts of functions, proved for every input that their preconditions allow; the conditions stand in each statement. -/
import Derived.Test.YteaiikmijhikpaaGreatDoorH18
import Derived.Test.YteaiikmijhikpaaGreatDoorH20
set_option linter.all false
section
namespace Go.Proofs.YteaiikmijhikpaaGreatDoor
open Go.ChangeShapes Go.WideShapes Go.ChangeAt Go.WideMaps Go.WideElems Go.RowKit
open Go Go.Sx
set_option maxRecDepth 100000
theorem shs7 : shsOf Tryz.prog Tryz.f7.params.toList = some s7.con.ps := by kernel_rfl
theorem res7 : Tryz.f7.resultTypes = #[4] := by kernel_rfl
theorem bool4 : Tryz.prog.underlying 4 = some .bool := by kernel_rfl
theorem par7 : (Tryz.f7.params.toList.all fun t => Tryz.prog.readableRec t && decide (t < Tryz.prog.types.size)) = true := by kernel_rfl
theorem lifted7 (os : Os) (started : os.Started) (H : Type) (enc : TypeId × Value → H) :
    ReturnsInHanded {} Tryz.checked os 7 .any (fun w args => (Rows.realTermEnclosesSpec.pre enc Tryz.prog Tryz.f7 [] false w args ∧ laidMetH Tryz.prog laidL w) ∧ sizedMet enc Tryz.prog Tryz.f7 (OpenSpec.ofChange Rows.realTermEnclosesSpec) false w args)
      (Rows.realTermEnclosesSpec.post enc Tryz.prog Tryz.f7 false true false false) := by
  refine returnsInHanded_of_change_and (C := Tryz.checked) (X := fun w _ => laidMetH Tryz.prog laidL w) (fun _ _ _ hh h => h.of_heap hh) ownK started (by kernel_rfl) Tryz.func7
    (ChangeSpec.witness_shaped (enc := enc) (C := Tryz.checked) (os := os) (X := fun w _ => laidMetH Tryz.prog laidL w) false (World.doorLaid Tryz.prog 400 os) #[.int .i64 0, .agg #[.int .i64 0, .int .i64 0, .int .i64 0, .int .i64 0]] 8 rfl (World.shaped_of_RefB (by kernel_rfl) (by kernel_rfl)) (by kernel_rfl) (by kernel_rfl) (by kernel_rfl) (door_met os _)) ?_
  intro W base args ds gs before hval0 hW _ _ hL _
  match ds, hW with
  | [d0, d1], hW => exact law_calls s7_ok.1 shs7 rfl (fun _ => rfl) (fun _ => trivial) hval0 hW rfl rfl res7 bool4 laidOutT par7 (glob_of_laid hL)
  | [], hW => exact absurd (trodAll_len hW) (by rw [show Tryz.f7.params.toList.length = 2 by kernel_rfl]; simp)
  | [_], hW => exact absurd (trodAll_len hW) (by rw [show Tryz.f7.params.toList.length = 2 by kernel_rfl]; simp)
  | _ :: _ :: _ :: _, hW => exact absurd (trodAll_len hW) (by rw [show Tryz.f7.params.toList.length = 2 by kernel_rfl]; simp)
theorem realTermEncloses_said : Rows.RealTermEnclosesSaid :=
  OpenClaim.holds_of_wide 7 Tryz.f7 rfl rfl rfl rfl rfl rfl rfl ⟨rfl, rfl, rfl, rfl, rfl⟩ rfl rfl rfl rfl rfl (by kernel_rfl) Tryz.func7 (by kernel_rfl)
    (of_decide_eq_true (by kernel_rfl)) (by unfold Func.isWrapper; rw [if_neg (of_decide_eq_false (by kernel_rfl))]; exact ⟨rfl, rfl⟩)
    (fun os started H enc _ => lifted7 os started H enc)
theorem realTermEncloses_holds : Rows.RealTermEnclosesCardSaid :=
  Claim7.holds_tied_plain_at .later [] [.data, .data] true (true, "59a9bbd5b530f4e847b20eb832b9f72e55083cecb86e93c69d96dc6c6e9fa37b") false
    realTermEncloses_said (fun _ h => by cases h) (by kernel_rfl) (fun _ h => by cases h) realTermEncloses_row_tie rfl ⟨rfl, rfl⟩ (by kernel_rfl) rfl
    (fun f fn hf hfn => by
      obtain rfl : f = 7 := Option.some.inj ((show Tryz.prog.funcNamed "compositor/compositorlaw29.RealTermEncloses" = some 7 by kernel_rfl).symm.trans hf) |>.symm
      obtain rfl : fn = Tryz.f7 := (Option.some.inj (Tryz.func7.symm.trans hfn)).symm
      have hall : (Tryz.f7.params.toList.all fun u => !Tryz.prog.wantsStandIn u) = true := by kernel_rfl
      exact ⟨by kernel_rfl, fun j t ht => by
        have hm : t ∈ Tryz.f7.params.toList := by simpa using Array.mem_of_getElem? ht
        exact (show Tryz.prog.wantsStandIn t = false by simpa using List.all_eq_true.1 hall t hm)⟩)
    (by kernel_rfl)
#print axioms realTermEncloses_holds
end Go.Proofs.YteaiikmijhikpaaGreatDoor
end
