/- The parts of this text are lemmas and contracts of functions, proved for every input that their preconditions allow; the conditions stand in each statement. -/
import Derived.Test.YteaiikmijhikpaaGreatDoorGa
import Derived.Test.YteaiikmijhikpaaGreatDoorWr
import Derived.Test.YteaiikmijhikpaaGreatDoorCards
import Derived.Test.YteaiikmijhikpaaGreatDoorTie
import Derived.ProofKit
import Derived.LaidMore
import Derived.OpenShut
import Derived.Stop.Joined
import Derived.SevenTiedAt
set_option linter.all false
section
namespace Go.Proofs.YteaiikmijhikpaaGreatDoor
open Go.ChangeShapes Go.WideShapes Go.ChangeAt Go.WideMaps Go.WideElems Go.RowKit
open Go Go.Sx
set_option maxRecDepth 100000
abbrev laidL : List (String × DataW Unit) := [("compositor/operator.rules", Rows.laid_compositor_operator_rules), ("compositor/blend.names", Rows.laid_compositor_blend_names)]
theorem ownK : ownKnob Tryz.prog.godebug = none := by kernel_rfl
theorem gRulesAt : Tryz.prog.globalNamed "compositor/operator.rules" = some 3 := by kernel_rfl
theorem gNamesAt : Tryz.prog.globalNamed "compositor/blend.names" = some 2 := by kernel_rfl
noncomputable def tyRules : TypeId := ((Tryz.prog.globals[3]?).map (·.type)).getD 0
noncomputable def tyNames : TypeId := ((Tryz.prog.globals[2]?).map (·.type)).getD 0
theorem tRules : (Tryz.prog.globals[3]?).map (·.type) = some tyRules := by kernel_rfl
theorem tNames : (Tryz.prog.globals[2]?).map (·.type) = some tyNames := by kernel_rfl
def rowNames : List Ty := List.replicate 13 .str
def rowRules : List Ty := (List.replicate 13 [.str, .int .i64, .int .i64, .int .i64]).flatten
theorem rNames : rowOf Tryz.prog 20 tyNames = some rowNames := by kernel_rfl
theorem rRules : rowOf Tryz.prog 20 tyRules = some rowRules := by kernel_rfl
theorem laidOutT : laidOutB Tryz.prog = true := by kernel_rfl
theorem door_met (os : Os) (args : Array Value) : laidMetH Tryz.prog laidL ((World.doorLaid Tryz.prog 400 os).forCall (fun _ _ => 0) ⟨#[], args, []⟩).memory :=
  laidMetH_of_parts3 (fuel := 8) (laidMet_of_run' 8 (by kernel_rfl) (by kernel_rfl)) (by kernel_rfl) (by kernel_rfl)
theorem glob_of_laid {W : World} (h : laidMetH Tryz.prog laidL W) : GlobOk G W := by
  rw [MakeChecks.laidMetH_plain _ _ _ (by kernel_rfl)] at h
  obtain ⟨ps, ⟨g0, t0, cs0, f0, p0, q0, hg0, ht0, hv0, hd0, ⟨g1, t1, cs1, f1, p1, q1, hg1, ht1, hv1, hd1, _, _⟩, _⟩, _, _⟩ := h
  obtain rfl := Option.some.inj (gRulesAt.symm.trans hg0)
  obtain rfl := Option.some.inj (gNamesAt.symm.trans hg1)
  obtain rfl := Option.some.inj (tRules.symm.trans ht0)
  obtain rfl := Option.some.inj (tNames.symm.trans ht1)
  intro g l hl
  unfold G at hl
  split at hl
  · simp only [Option.some.injEq] at hl
    subst hl
    exact glob_laid hg1 hv1 hd1 rNames (by rfl) (by rfl)
  · simp only [Option.some.injEq] at hl
    subst hl
    exact glob_laid hg0 hv0 hd0 rRules (by rfl) (by rfl)
  · cases hl
end Go.Proofs.YteaiikmijhikpaaGreatDoor
end
