/- The parts of this text are lemmas and contracts of functions, proved for every input that their preconditions allow; the conditions stand in each statement. -/
import Derived.Test.YteaiikmijhikpaaGreatDoorGc
set_option linter.all false
section
namespace Go.Proofs.YteaiikmijhikpaaGreatDoor
open Go Go.Sx
set_option maxRecDepth 100000
/-- compositor/compositorlaw29.awake -/
def c13 : Con := { f := 13, ps := [], rs := [.at (.bool)] }
def t13 : Tr Leaf :=
 (.pre 0 [.lit (.int (2)), .lit (.int (549755813888)), .lit (.int (549755813888)), .lit (.int (549755813888)), .lit (.int (549755813888)), .lit (.int (549755813888)), .lit (.int (549755813888)), .lit (.int (549755813888)), .lit (.int (549755813888))]
 (.pre 5 [.lit (.int (255)), .lit (.int (255))]
 (.pre 5 [.lit (.int (255)), .lit (.int (255))]
 (.pre 5 [.lit (.int (0)), .lit (.int (255))]
 (.pre 5 [.lit (.int (0)), .lit (.int (255))]
 (.pre 5 [.lit (.int (0)), .lit (.int (255))]
 (.pre 5 [.lit (.int (255)), .lit (.int (255))]
 (.pre 1 [.lit (.int (0)), .lit (.int (0)), .lit (.int (1099511627776)), .lit (.int (1099511627776))]
 (.pre 1 [.lit (.int (0)), .lit (.int (0)), .lit (.int (1099511627776)), .lit (.int (1099511627776))]
 (.pre 1 [.lit (.int (0)), .lit (.int (0)), .lit (.int (1099511627776)), .lit (.int (1099511627776))]
 (.pre 1 [.lit (.int (1099511627776)), .lit (.int (1099511627776)), .lit (.int (1099511627776)), .lit (.int (1099511627776))]
 (.pre 1 [.lit (.int (1099511627776)), .lit (.int (1099511627776)), .lit (.int (1099511627776)), .lit (.int (1099511627776))]
 (.pre 9 [.lit (.int (4)), .lit (.int (1099511627776)), .lit (.int (1099511627776)), .lit (.int (0)), .lit (.int (0))]
 (.pre 7 [.lit (.int (1099511627776)), .lit (.int (1099511627776))]
 (.pre 1 [.lit (.int (0)), .lit (.int (0)), .lit (.int (0)), .lit (.int (0))]
 (.pre 2 [.lit (.int (1099511627776)), .lit (.int (1099511627776)), .lit (.int (0)), .lit (.int (0))]
 (.pre 4 [.lit (.int (1099511627776)), .lit (.int (1099511627776))]
 (.pre 9 [.lit (.int (4)), .lit (.int (1099511627776)), .lit (.int (1099511627776)), .lit (.int (0)), .lit (.int (0))]
 (.pre 10 [.lit (.int (4)), .lit (.int (1099511627776)), .lit (.int (1099511627776)), .lit (.int (0)), .lit (.int (0))]
 (.pre 8 [.lit (.int (1)), .lit (.int (0)), .lit (.int (0)), .lit (.int (1099511627776)), .lit (.int (1099511627776)), .lit (.int (0)), .lit (.int (0)), .lit (.int (0)), .lit (.int (0))]
 (.pre 1 [.lit (.int (1099511627776)), .lit (.int (1099511627776)), .lit (.int (0)), .lit (.int (0))]
 (.pre 1 [.lit (.int (0)), .lit (.int (0)), .lit (.int (0)), .lit (.int (0))]
 (.pre 2 [.lit (.int (0)), .lit (.int (0)), .lit (.int (0)), .lit (.int (0))]
 (.pre 6 [.lit (.int (0)), .lit (.int (0)), .lit (.int (1099511627776)), .lit (.int (1099511627776))]
 (.pre 8 [.lit (.int (1)), .lit (.int (0)), .lit (.int (0)), .lit (.int (1099511627776)), .lit (.int (1099511627776)), .lit (.int (0)), .lit (.int (0)), .lit (.int (0)), .lit (.int (0))]
 (.pre 1 [.lit (.int (1099511627776)), .lit (.int (1099511627776)), .lit (.int (0)), .lit (.int (0))]
 (.pre 1 [.lit (.int (0)), .lit (.int (0)), .lit (.int (0)), .lit (.int (0))]
 (.pre 2 [.lit (.int (0)), .lit (.int (0)), .lit (.int (0)), .lit (.int (0))]
 (.pre 6 [.lit (.int (0)), .lit (.int (0)), .lit (.int (1099511627776)), .lit (.int (1099511627776))]
 (.pre 8 [.lit (.int (1)), .lit (.int (0)), .lit (.int (0)), .lit (.int (1099511627776)), .lit (.int (1099511627776)), .lit (.int (0)), .lit (.int (0)), .lit (.int (0)), .lit (.int (0))]
 (.pre 1 [.lit (.int (1099511627776)), .lit (.int (1099511627776)), .lit (.int (0)), .lit (.int (0))]
 (.pre 1 [.lit (.int (0)), .lit (.int (0)), .lit (.int (0)), .lit (.int (0))]
 (.pre 2 [.lit (.int (0)), .lit (.int (0)), .lit (.int (0)), .lit (.int (0))]
 (.pre 6 [.lit (.int (0)), .lit (.int (0)), .lit (.int (1099511627776)), .lit (.int (1099511627776))]
 (.pre 7 [.lit (.int (1099511627776)), .lit (.int (1099511627776))]
 (.pre 1 [.lit (.int (0)), .lit (.int (0)), .lit (.int (0)), .lit (.int (0))]
 (.pre 3 [.lit (.int (0)), .lit (.int (0)), .lit (.int (0)), .lit (.int (0))]
 (.pre 6 [.lit (.int (0)), .lit (.int (0)), .lit (.int (1099511627776)), .lit (.int (1099511627776))]
 (.pre 7 [.lit (.int (1099511627776)), .lit (.int (1099511627776))]
 (.pre 1 [.lit (.int (0)), .lit (.int (0)), .lit (.int (0)), .lit (.int (0))]
 (.pre 3 [.lit (.int (0)), .lit (.int (0)), .lit (.int (0)), .lit (.int (0))]
 (.pre 6 [.lit (.int (0)), .lit (.int (0)), .lit (.int (1099511627776)), .lit (.int (1099511627776))]
 (.pre 7 [.lit (.int (1099511627776)), .lit (.int (1099511627776))]
 (.pre 1 [.lit (.int (0)), .lit (.int (0)), .lit (.int (0)), .lit (.int (0))]
 (.pre 3 [.lit (.int (0)), .lit (.int (0)), .lit (.int (0)), .lit (.int (0))]
 (.pre 6 [.lit (.int (0)), .lit (.int (0)), .lit (.int (1099511627776)), .lit (.int (1099511627776))]
 (.pre 4 [.lit (.int (0)), .lit (.int (0))]
 (.pre 4 [.lit (.int (0)), .lit (.int (0))]
 (.pre 4 [.lit (.int (0)), .lit (.int (0))]
 (.pre 4 [.lit (.int (1099511627776)), .lit (.int (1099511627776))]
 (.pre 4 [.lit (.int (1099511627776)), .lit (.int (1099511627776))]
 (.pre 11 [.lit (.int (274877906944)), .lit (.int (274877906944)), .lit (.int (1)), .lit (.int (4))]
 (.pre 11 [.lit (.int (1099511627776)), .lit (.int (1099511627776)), .lit (.int (1)), .lit (.int (1))]
 (.pre 11 [.lit (.int (0)), .lit (.int (0)), .lit (.int (0)), .lit (.int (1))]
 (.ret (.done [.lit (.bool true)]))))))))))))))))))))))))))))))))))))))))))))))))))))))))
def s13 : Sx.Spec := .auto c13 [s11, s29, s61, s62, s40, s145, s146, s147, s189, s190, s191, s30] t13 (fun _ => True)
theorem t13_eq : ((fnC (PV.fast Tryz.prog) G (([s11, s29, s61, s62, s40, s145, s146, s147, s189, s190, s191, s30] : List Sx.Spec).map (·.con)) [] 100000 c13 20).prune []).toTr = t13 := by kernel_rfl
theorem s13_ok : s13.Ok Tryz.prog G := auto_ok (by simp only [List.mem_cons, List.not_mem_nil, or_false, forall_eq_or_imp, forall_eq]; exact ⟨s11_ok, s29_ok, s61_ok, s62_ok, s40_ok, s145_ok, s146_ok, s147_ok, s189_ok, s190_ok, s191_ok, s30_ok⟩) 100000 20 t13_eq (by
  intro ds _
  simp [t13, Tr.safe, preOf, s11, s29, s61, s62, s40, s145, s146, s147, s189, s190, s191, s30, Sx.Spec.auto])
end Go.Proofs.YteaiikmijhikpaaGreatDoor
end
