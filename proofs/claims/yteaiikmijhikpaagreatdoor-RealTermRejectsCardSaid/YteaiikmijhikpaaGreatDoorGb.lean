/- Contracts of the interval functions and of 128-bit products, each for every input that its precondition allows. -/
import Derived.Test.YteaiikmijhikpaaGreatDoorGa
set_option linter.all false
section
namespace Go.Proofs.YteaiikmijhikpaaGreatDoor
open Go Go.Sx
set_option maxRecDepth 100000

theorem s24_val (a b : D) : s24.fn [a, b] = [.bool (decide (a.toInt ≤ b.toInt ∧ -17592186044416 ≤ a.toInt ∧ b.toInt ≤ 17592186044416))] := by
  have e : s24.fn [a, b] = t24.run (fnOf []) [a, b] := rfl
  rw [e]
  simp only [t24, Tr.run, T.eval, T.evals, pe_ar, pe_wrap, pe_mn, pe_mx, pe_cm, pe_not, pe_beq, pe_ite, pe_len, pe_slen, pe_sat, pe_call, fnOf, cm_eq, cm_ne, cm_lt, cm_le, cm_gt, cm_ge, ar_add, ar_sub, ar_mul, ar_quo, ar_rem, ar_shl, ar_shr, wrap_u64, wrap_i64, wrap_u8, List.getD_cons_zero, List.getD_cons_succ, D.toInt_int, D.toBool_bool]
  by_cases h1 : a.toInt ≤ b.toInt
  · by_cases h2 : -17592186044416 ≤ a.toInt
    · simp [h1, h2]
    · simp [h1, h2]
  · simp [h1]
/-- compositor/interval.Add -/
def c113 : Con := { f := 113, ps := [.agg [.int .i64, .int .i64], .agg [.int .i64, .int .i64]], rs := [.agg [.int .i64, .int .i64], .at (.bool)] }
def t113 : Tr Leaf :=
 (.pre 0 [.v 0, .v 1]
 (.ask (.app (.call 0 0) [.v 0, .v 1])
  (.pre 0 [.v 2, .v 3]
  (.pre 1 [.app (.ar .add .i64) [.v 0, .v 2], .app (.ar .add .i64) [.v 1, .v 3], .app (.call 0 0) [.v 2, .v 3]]
  (.ret (.done [.app (.call 1 0) [.app (.ar .add .i64) [.v 0, .v 2], .app (.ar .add .i64) [.v 1, .v 3], .app (.call 0 0) [.v 2, .v 3]], .app (.call 1 1) [.app (.ar .add .i64) [.v 0, .v 2], .app (.ar .add .i64) [.v 1, .v 3], .app (.call 0 0) [.v 2, .v 3]], .app (.call 1 2) [.app (.ar .add .i64) [.v 0, .v 2], .app (.ar .add .i64) [.v 1, .v 3], .app (.call 0 0) [.v 2, .v 3]]]))))
  (.pre 1 [.app (.ar .add .i64) [.v 0, .v 2], .app (.ar .add .i64) [.v 1, .v 3], .lit (.bool false)]
  (.ret (.done [.app (.call 1 0) [.app (.ar .add .i64) [.v 0, .v 2], .app (.ar .add .i64) [.v 1, .v 3], .lit (.bool false)], .app (.call 1 1) [.app (.ar .add .i64) [.v 0, .v 2], .app (.ar .add .i64) [.v 1, .v 3], .lit (.bool false)], .app (.call 1 2) [.app (.ar .add .i64) [.v 0, .v 2], .app (.ar .add .i64) [.v 1, .v 3], .lit (.bool false)]])))))
def s113 : Sx.Spec := .auto c113 [s24, s169] t113 (fun _ => True)
theorem t113_eq : ((fnC (PV.fast Tryz.prog) G (([s24, s169] : List Sx.Spec).map (·.con)) [] 300 c113 20).prune []).toTr = t113 := by kernel_rfl
theorem s113_ok : s113.Ok Tryz.prog G := auto_ok (by simp only [List.mem_cons, List.not_mem_nil, or_false, forall_eq_or_imp, forall_eq]; exact ⟨s24_ok, s169_ok⟩) 300 20 t113_eq (by
  intro ds _
  simp [t113, Tr.safe, preOf, s24, s169, Sx.Spec.auto])

/-- compositor/interval.Sub -/
def c114 : Con := { f := 114, ps := [.agg [.int .i64, .int .i64], .agg [.int .i64, .int .i64]], rs := [.agg [.int .i64, .int .i64], .at (.bool)] }
def t114 : Tr Leaf :=
 (.pre 0 [.v 0, .v 1]
 (.ask (.app (.call 0 0) [.v 0, .v 1])
  (.pre 0 [.v 2, .v 3]
  (.pre 1 [.app (.ar .sub .i64) [.v 0, .v 3], .app (.ar .sub .i64) [.v 1, .v 2], .app (.call 0 0) [.v 2, .v 3]]
  (.ret (.done [.app (.call 1 0) [.app (.ar .sub .i64) [.v 0, .v 3], .app (.ar .sub .i64) [.v 1, .v 2], .app (.call 0 0) [.v 2, .v 3]], .app (.call 1 1) [.app (.ar .sub .i64) [.v 0, .v 3], .app (.ar .sub .i64) [.v 1, .v 2], .app (.call 0 0) [.v 2, .v 3]], .app (.call 1 2) [.app (.ar .sub .i64) [.v 0, .v 3], .app (.ar .sub .i64) [.v 1, .v 2], .app (.call 0 0) [.v 2, .v 3]]]))))
  (.pre 1 [.app (.ar .sub .i64) [.v 0, .v 3], .app (.ar .sub .i64) [.v 1, .v 2], .lit (.bool false)]
  (.ret (.done [.app (.call 1 0) [.app (.ar .sub .i64) [.v 0, .v 3], .app (.ar .sub .i64) [.v 1, .v 2], .lit (.bool false)], .app (.call 1 1) [.app (.ar .sub .i64) [.v 0, .v 3], .app (.ar .sub .i64) [.v 1, .v 2], .lit (.bool false)], .app (.call 1 2) [.app (.ar .sub .i64) [.v 0, .v 3], .app (.ar .sub .i64) [.v 1, .v 2], .lit (.bool false)]])))))
def s114 : Sx.Spec := .auto c114 [s24, s169] t114 (fun _ => True)
theorem t114_eq : ((fnC (PV.fast Tryz.prog) G (([s24, s169] : List Sx.Spec).map (·.con)) [] 300 c114 20).prune []).toTr = t114 := by kernel_rfl
theorem s114_ok : s114.Ok Tryz.prog G := auto_ok (by simp only [List.mem_cons, List.not_mem_nil, or_false, forall_eq_or_imp, forall_eq]; exact ⟨s24_ok, s169_ok⟩) 300 20 t114_eq (by
  intro ds _
  simp [t114, Tr.safe, preOf, s24, s169, Sx.Spec.auto])

/-- compositor/interval.Min -/
def c117 : Con := { f := 117, ps := [.agg [.int .i64, .int .i64], .agg [.int .i64, .int .i64]], rs := [.agg [.int .i64, .int .i64], .at (.bool)] }
def t117 : Tr Leaf :=
 (.pre 0 [.v 0, .v 1]
 (.ask (.app (.call 0 0) [.v 0, .v 1])
  (.pre 0 [.v 2, .v 3]
  (.pre 1 [.app .mn [.v 0, .v 2], .app .mn [.v 1, .v 3], .app (.call 0 0) [.v 2, .v 3]]
  (.ret (.done [.app (.call 1 0) [.app .mn [.v 0, .v 2], .app .mn [.v 1, .v 3], .app (.call 0 0) [.v 2, .v 3]], .app (.call 1 1) [.app .mn [.v 0, .v 2], .app .mn [.v 1, .v 3], .app (.call 0 0) [.v 2, .v 3]], .app (.call 1 2) [.app .mn [.v 0, .v 2], .app .mn [.v 1, .v 3], .app (.call 0 0) [.v 2, .v 3]]]))))
  (.pre 1 [.app .mn [.v 0, .v 2], .app .mn [.v 1, .v 3], .lit (.bool false)]
  (.ret (.done [.app (.call 1 0) [.app .mn [.v 0, .v 2], .app .mn [.v 1, .v 3], .lit (.bool false)], .app (.call 1 1) [.app .mn [.v 0, .v 2], .app .mn [.v 1, .v 3], .lit (.bool false)], .app (.call 1 2) [.app .mn [.v 0, .v 2], .app .mn [.v 1, .v 3], .lit (.bool false)]])))))
def s117 : Sx.Spec := .auto c117 [s24, s169] t117 (fun _ => True)
theorem t117_eq : ((fnC (PV.fast Tryz.prog) G (([s24, s169] : List Sx.Spec).map (·.con)) [] 300 c117 20).prune []).toTr = t117 := by kernel_rfl
theorem s117_ok : s117.Ok Tryz.prog G := auto_ok (by simp only [List.mem_cons, List.not_mem_nil, or_false, forall_eq_or_imp, forall_eq]; exact ⟨s24_ok, s169_ok⟩) 300 20 t117_eq (by
  intro ds _
  simp [t117, Tr.safe, preOf, s24, s169, Sx.Spec.auto])

/-- compositor/interval.Max -/
def c118 : Con := { f := 118, ps := [.agg [.int .i64, .int .i64], .agg [.int .i64, .int .i64]], rs := [.agg [.int .i64, .int .i64], .at (.bool)] }
def t118 : Tr Leaf :=
 (.pre 0 [.v 0, .v 1]
 (.ask (.app (.call 0 0) [.v 0, .v 1])
  (.pre 0 [.v 2, .v 3]
  (.pre 1 [.app .mx [.v 0, .v 2], .app .mx [.v 1, .v 3], .app (.call 0 0) [.v 2, .v 3]]
  (.ret (.done [.app (.call 1 0) [.app .mx [.v 0, .v 2], .app .mx [.v 1, .v 3], .app (.call 0 0) [.v 2, .v 3]], .app (.call 1 1) [.app .mx [.v 0, .v 2], .app .mx [.v 1, .v 3], .app (.call 0 0) [.v 2, .v 3]], .app (.call 1 2) [.app .mx [.v 0, .v 2], .app .mx [.v 1, .v 3], .app (.call 0 0) [.v 2, .v 3]]]))))
  (.pre 1 [.app .mx [.v 0, .v 2], .app .mx [.v 1, .v 3], .lit (.bool false)]
  (.ret (.done [.app (.call 1 0) [.app .mx [.v 0, .v 2], .app .mx [.v 1, .v 3], .lit (.bool false)], .app (.call 1 1) [.app .mx [.v 0, .v 2], .app .mx [.v 1, .v 3], .lit (.bool false)], .app (.call 1 2) [.app .mx [.v 0, .v 2], .app .mx [.v 1, .v 3], .lit (.bool false)]])))))
def s118 : Sx.Spec := .auto c118 [s24, s169] t118 (fun _ => True)
theorem t118_eq : ((fnC (PV.fast Tryz.prog) G (([s24, s169] : List Sx.Spec).map (·.con)) [] 300 c118 20).prune []).toTr = t118 := by kernel_rfl
theorem s118_ok : s118.Ok Tryz.prog G := auto_ok (by simp only [List.mem_cons, List.not_mem_nil, or_false, forall_eq_or_imp, forall_eq]; exact ⟨s24_ok, s169_ok⟩) 300 20 t118_eq (by
  intro ds _
  simp [t118, Tr.safe, preOf, s24, s169, Sx.Spec.auto])

/-- compositor/interval.Hull -/
def c170 : Con := { f := 170, ps := [.agg [.int .i64, .int .i64], .agg [.int .i64, .int .i64]], rs := [.agg [.int .i64, .int .i64], .at (.bool)] }
def t170 : Tr Leaf :=
 (.pre 0 [.v 0, .v 1]
 (.ask (.app (.call 0 0) [.v 0, .v 1])
  (.pre 0 [.v 2, .v 3]
  (.pre 1 [.app .mn [.v 0, .v 2], .app .mx [.v 1, .v 3], .app (.call 0 0) [.v 2, .v 3]]
  (.ret (.done [.app (.call 1 0) [.app .mn [.v 0, .v 2], .app .mx [.v 1, .v 3], .app (.call 0 0) [.v 2, .v 3]], .app (.call 1 1) [.app .mn [.v 0, .v 2], .app .mx [.v 1, .v 3], .app (.call 0 0) [.v 2, .v 3]], .app (.call 1 2) [.app .mn [.v 0, .v 2], .app .mx [.v 1, .v 3], .app (.call 0 0) [.v 2, .v 3]]]))))
  (.pre 1 [.app .mn [.v 0, .v 2], .app .mx [.v 1, .v 3], .lit (.bool false)]
  (.ret (.done [.app (.call 1 0) [.app .mn [.v 0, .v 2], .app .mx [.v 1, .v 3], .lit (.bool false)], .app (.call 1 1) [.app .mn [.v 0, .v 2], .app .mx [.v 1, .v 3], .lit (.bool false)], .app (.call 1 2) [.app .mn [.v 0, .v 2], .app .mx [.v 1, .v 3], .lit (.bool false)]])))))
def s170 : Sx.Spec := .auto c170 [s24, s169] t170 (fun _ => True)
theorem t170_eq : ((fnC (PV.fast Tryz.prog) G (([s24, s169] : List Sx.Spec).map (·.con)) [] 300 c170 20).prune []).toTr = t170 := by kernel_rfl
theorem s170_ok : s170.Ok Tryz.prog G := auto_ok (by simp only [List.mem_cons, List.not_mem_nil, or_false, forall_eq_or_imp, forall_eq]; exact ⟨s24_ok, s169_ok⟩) 300 20 t170_eq (by
  intro ds _
  simp [t170, Tr.safe, preOf, s24, s169, Sx.Spec.auto])

/-- compositor/interval.Mul -/
def c73 : Con := { f := 73, ps := [.agg [.int .i64, .int .i64], .agg [.int .i64, .int .i64]], rs := [.agg [.int .i64, .int .i64], .at (.bool)] }
def t73 : Tr Leaf :=
 (.pre 0 [.v 0, .v 1]
 (.ask (.app (.call 0 0) [.v 0, .v 1])
  (.pre 0 [.v 2, .v 3]
  (.ask (.app (.call 0 0) [.v 2, .v 3])
   (.pre 1 [.v 0, .v 2, .lit (.int (1099511627776))]
   (.ask (.app (.call 1 2) [.v 0, .v 2, .lit (.int (1099511627776))])
    (.pre 1 [.v 0, .v 3, .lit (.int (1099511627776))]
    (.ask (.app (.call 1 2) [.v 0, .v 3, .lit (.int (1099511627776))])
     (.pre 1 [.v 1, .v 2, .lit (.int (1099511627776))]
     (.ask (.app (.call 1 2) [.v 1, .v 2, .lit (.int (1099511627776))])
      (.pre 1 [.v 1, .v 3, .lit (.int (1099511627776))]
      (.ask (.app (.call 1 2) [.v 1, .v 3, .lit (.int (1099511627776))])
       (.pre 2 [.app .mn [.app .mn [.app .mn [.app .mn [.app (.call 1 0) [.v 0, .v 2, .lit (.int (1099511627776))], .app (.call 1 0) [.v 0, .v 2, .lit (.int (1099511627776))]], .app (.call 1 0) [.v 0, .v 3, .lit (.int (1099511627776))]], .app (.call 1 0) [.v 1, .v 2, .lit (.int (1099511627776))]], .app (.call 1 0) [.v 1, .v 3, .lit (.int (1099511627776))]], .app .mx [.app .mx [.app .mx [.app .mx [.app (.call 1 1) [.v 0, .v 2, .lit (.int (1099511627776))], .app (.call 1 1) [.v 0, .v 2, .lit (.int (1099511627776))]], .app (.call 1 1) [.v 0, .v 3, .lit (.int (1099511627776))]], .app (.call 1 1) [.v 1, .v 2, .lit (.int (1099511627776))]], .app (.call 1 1) [.v 1, .v 3, .lit (.int (1099511627776))]], .lit (.bool true)]
       (.ret (.done [.app (.call 2 0) [.app .mn [.app .mn [.app .mn [.app .mn [.app (.call 1 0) [.v 0, .v 2, .lit (.int (1099511627776))], .app (.call 1 0) [.v 0, .v 2, .lit (.int (1099511627776))]], .app (.call 1 0) [.v 0, .v 3, .lit (.int (1099511627776))]], .app (.call 1 0) [.v 1, .v 2, .lit (.int (1099511627776))]], .app (.call 1 0) [.v 1, .v 3, .lit (.int (1099511627776))]], .app .mx [.app .mx [.app .mx [.app .mx [.app (.call 1 1) [.v 0, .v 2, .lit (.int (1099511627776))], .app (.call 1 1) [.v 0, .v 2, .lit (.int (1099511627776))]], .app (.call 1 1) [.v 0, .v 3, .lit (.int (1099511627776))]], .app (.call 1 1) [.v 1, .v 2, .lit (.int (1099511627776))]], .app (.call 1 1) [.v 1, .v 3, .lit (.int (1099511627776))]], .lit (.bool true)], .app (.call 2 1) [.app .mn [.app .mn [.app .mn [.app .mn [.app (.call 1 0) [.v 0, .v 2, .lit (.int (1099511627776))], .app (.call 1 0) [.v 0, .v 2, .lit (.int (1099511627776))]], .app (.call 1 0) [.v 0, .v 3, .lit (.int (1099511627776))]], .app (.call 1 0) [.v 1, .v 2, .lit (.int (1099511627776))]], .app (.call 1 0) [.v 1, .v 3, .lit (.int (1099511627776))]], .app .mx [.app .mx [.app .mx [.app .mx [.app (.call 1 1) [.v 0, .v 2, .lit (.int (1099511627776))], .app (.call 1 1) [.v 0, .v 2, .lit (.int (1099511627776))]], .app (.call 1 1) [.v 0, .v 3, .lit (.int (1099511627776))]], .app (.call 1 1) [.v 1, .v 2, .lit (.int (1099511627776))]], .app (.call 1 1) [.v 1, .v 3, .lit (.int (1099511627776))]], .lit (.bool true)], .app (.call 2 2) [.app .mn [.app .mn [.app .mn [.app .mn [.app (.call 1 0) [.v 0, .v 2, .lit (.int (1099511627776))], .app (.call 1 0) [.v 0, .v 2, .lit (.int (1099511627776))]], .app (.call 1 0) [.v 0, .v 3, .lit (.int (1099511627776))]], .app (.call 1 0) [.v 1, .v 2, .lit (.int (1099511627776))]], .app (.call 1 0) [.v 1, .v 3, .lit (.int (1099511627776))]], .app .mx [.app .mx [.app .mx [.app .mx [.app (.call 1 1) [.v 0, .v 2, .lit (.int (1099511627776))], .app (.call 1 1) [.v 0, .v 2, .lit (.int (1099511627776))]], .app (.call 1 1) [.v 0, .v 3, .lit (.int (1099511627776))]], .app (.call 1 1) [.v 1, .v 2, .lit (.int (1099511627776))]], .app (.call 1 1) [.v 1, .v 3, .lit (.int (1099511627776))]], .lit (.bool true)]])))
       (.ret (.done [.lit (.int (0)), .lit (.int (0)), .lit (.bool false)]))))
      (.ret (.done [.lit (.int (0)), .lit (.int (0)), .lit (.bool false)]))))
     (.ret (.done [.lit (.int (0)), .lit (.int (0)), .lit (.bool false)]))))
    (.ret (.done [.lit (.int (0)), .lit (.int (0)), .lit (.bool false)]))))
   (.ret (.done [.lit (.int (0)), .lit (.int (0)), .lit (.bool false)]))))
  (.ret (.done [.lit (.int (0)), .lit (.int (0)), .lit (.bool false)]))))
def s73 : Sx.Spec := .auto c73 [s24, s126, s169] t73 (fun _ => True)
theorem t73_eq : ((fnC (PV.fast Tryz.prog) G (([s24, s126, s169] : List Sx.Spec).map (·.con)) [] 300 c73 20).prune []).toTr = t73 := by kernel_rfl
theorem s73_ok : s73.Ok Tryz.prog G := auto_ok (by simp only [List.mem_cons, List.not_mem_nil, or_false, forall_eq_or_imp, forall_eq]; exact ⟨s24_ok, s126_ok, s169_ok⟩) 300 20 t73_eq (by
  intro ds _
  simp [t73, Tr.safe, preOf, s24, s126, s169, Sx.Spec.auto, T.evals, T.eval])

/-- compositor/interval.Div -/
def c171 : Con := { f := 171, ps := [.agg [.int .i64, .int .i64], .agg [.int .i64, .int .i64]], rs := [.agg [.int .i64, .int .i64], .at (.bool)] }
def t171 : Tr Leaf :=
 (.pre 0 [.v 0, .v 1]
 (.ask (.app (.call 0 0) [.v 0, .v 1])
  (.pre 0 [.v 2, .v 3]
  (.ask (.app (.call 0 0) [.v 2, .v 3])
   (.ask (.app (.cm .le) [.v 2, .lit (.int (0))])
    (.ret (.done [.lit (.int (0)), .lit (.int (0)), .lit (.bool false)]))
    (.pre 1 [.v 0, .lit (.int (1099511627776)), .v 2]
    (.ask (.app (.call 1 2) [.v 0, .lit (.int (1099511627776)), .v 2])
     (.pre 1 [.v 0, .lit (.int (1099511627776)), .v 3]
     (.ask (.app (.call 1 2) [.v 0, .lit (.int (1099511627776)), .v 3])
      (.pre 1 [.v 1, .lit (.int (1099511627776)), .v 2]
      (.ask (.app (.call 1 2) [.v 1, .lit (.int (1099511627776)), .v 2])
       (.pre 1 [.v 1, .lit (.int (1099511627776)), .v 3]
       (.ask (.app (.call 1 2) [.v 1, .lit (.int (1099511627776)), .v 3])
        (.pre 2 [.app .mn [.app .mn [.app .mn [.app .mn [.app (.call 1 0) [.v 0, .lit (.int (1099511627776)), .v 2], .app (.call 1 0) [.v 0, .lit (.int (1099511627776)), .v 2]], .app (.call 1 0) [.v 0, .lit (.int (1099511627776)), .v 3]], .app (.call 1 0) [.v 1, .lit (.int (1099511627776)), .v 2]], .app (.call 1 0) [.v 1, .lit (.int (1099511627776)), .v 3]], .app .mx [.app .mx [.app .mx [.app .mx [.app (.call 1 1) [.v 0, .lit (.int (1099511627776)), .v 2], .app (.call 1 1) [.v 0, .lit (.int (1099511627776)), .v 2]], .app (.call 1 1) [.v 0, .lit (.int (1099511627776)), .v 3]], .app (.call 1 1) [.v 1, .lit (.int (1099511627776)), .v 2]], .app (.call 1 1) [.v 1, .lit (.int (1099511627776)), .v 3]], .lit (.bool true)]
        (.ret (.done [.app (.call 2 0) [.app .mn [.app .mn [.app .mn [.app .mn [.app (.call 1 0) [.v 0, .lit (.int (1099511627776)), .v 2], .app (.call 1 0) [.v 0, .lit (.int (1099511627776)), .v 2]], .app (.call 1 0) [.v 0, .lit (.int (1099511627776)), .v 3]], .app (.call 1 0) [.v 1, .lit (.int (1099511627776)), .v 2]], .app (.call 1 0) [.v 1, .lit (.int (1099511627776)), .v 3]], .app .mx [.app .mx [.app .mx [.app .mx [.app (.call 1 1) [.v 0, .lit (.int (1099511627776)), .v 2], .app (.call 1 1) [.v 0, .lit (.int (1099511627776)), .v 2]], .app (.call 1 1) [.v 0, .lit (.int (1099511627776)), .v 3]], .app (.call 1 1) [.v 1, .lit (.int (1099511627776)), .v 2]], .app (.call 1 1) [.v 1, .lit (.int (1099511627776)), .v 3]], .lit (.bool true)], .app (.call 2 1) [.app .mn [.app .mn [.app .mn [.app .mn [.app (.call 1 0) [.v 0, .lit (.int (1099511627776)), .v 2], .app (.call 1 0) [.v 0, .lit (.int (1099511627776)), .v 2]], .app (.call 1 0) [.v 0, .lit (.int (1099511627776)), .v 3]], .app (.call 1 0) [.v 1, .lit (.int (1099511627776)), .v 2]], .app (.call 1 0) [.v 1, .lit (.int (1099511627776)), .v 3]], .app .mx [.app .mx [.app .mx [.app .mx [.app (.call 1 1) [.v 0, .lit (.int (1099511627776)), .v 2], .app (.call 1 1) [.v 0, .lit (.int (1099511627776)), .v 2]], .app (.call 1 1) [.v 0, .lit (.int (1099511627776)), .v 3]], .app (.call 1 1) [.v 1, .lit (.int (1099511627776)), .v 2]], .app (.call 1 1) [.v 1, .lit (.int (1099511627776)), .v 3]], .lit (.bool true)], .app (.call 2 2) [.app .mn [.app .mn [.app .mn [.app .mn [.app (.call 1 0) [.v 0, .lit (.int (1099511627776)), .v 2], .app (.call 1 0) [.v 0, .lit (.int (1099511627776)), .v 2]], .app (.call 1 0) [.v 0, .lit (.int (1099511627776)), .v 3]], .app (.call 1 0) [.v 1, .lit (.int (1099511627776)), .v 2]], .app (.call 1 0) [.v 1, .lit (.int (1099511627776)), .v 3]], .app .mx [.app .mx [.app .mx [.app .mx [.app (.call 1 1) [.v 0, .lit (.int (1099511627776)), .v 2], .app (.call 1 1) [.v 0, .lit (.int (1099511627776)), .v 2]], .app (.call 1 1) [.v 0, .lit (.int (1099511627776)), .v 3]], .app (.call 1 1) [.v 1, .lit (.int (1099511627776)), .v 2]], .app (.call 1 1) [.v 1, .lit (.int (1099511627776)), .v 3]], .lit (.bool true)]])))
        (.ret (.done [.lit (.int (0)), .lit (.int (0)), .lit (.bool false)]))))
       (.ret (.done [.lit (.int (0)), .lit (.int (0)), .lit (.bool false)]))))
      (.ret (.done [.lit (.int (0)), .lit (.int (0)), .lit (.bool false)]))))
     (.ret (.done [.lit (.int (0)), .lit (.int (0)), .lit (.bool false)])))))
   (.ret (.done [.lit (.int (0)), .lit (.int (0)), .lit (.bool false)]))))
  (.ret (.done [.lit (.int (0)), .lit (.int (0)), .lit (.bool false)]))))
def s171 : Sx.Spec := .auto c171 [s24, s126, s169] t171 (fun _ => True)
theorem t171_eq : ((fnC (PV.fast Tryz.prog) G (([s24, s126, s169] : List Sx.Spec).map (·.con)) [] 300 c171 20).prune []).toTr = t171 := by kernel_rfl
theorem s171_ok : s171.Ok Tryz.prog G := auto_ok (by simp only [List.mem_cons, List.not_mem_nil, or_false, forall_eq_or_imp, forall_eq]; exact ⟨s24_ok, s126_ok, s169_ok⟩) 300 20 t171_eq (by
  intro ds _
  have v := s24_val (ds.getD 2 default) (ds.getD 3 default)
  simp only [t171, Tr.safe, T.eval, T.evals, pe_ar, pe_wrap, pe_mn, pe_mx, pe_cm, pe_not, pe_beq, pe_ite, pe_len, pe_slen, pe_sat, pe_call, fnOf, cm_eq, cm_ne, cm_lt, cm_le, cm_gt, cm_ge, ar_add, ar_sub, ar_mul, ar_quo, ar_rem, ar_shl, ar_shr, wrap_u64, wrap_i64, wrap_u8, D.toInt_int, v, List.getD_cons_zero, D.toBool_bool, decide_eq_true_eq, decide_eq_false_iff_not]
  refine ⟨trivial, fun _ => ⟨trivial, fun hv => ⟨fun _ => trivial, fun hz => ?_⟩, fun _ => trivial⟩, fun _ => trivial⟩
  have p2 : 0 < (ds.getD 2 default).toInt ∧ (ds.getD 2 default).toInt < 9223372036854775808 := by omega
  have p3 : 0 < (ds.getD 3 default).toInt ∧ (ds.getD 3 default).toInt < 9223372036854775808 := by omega
  exact ⟨p2, fun _ => ⟨p3, fun _ => ⟨p2, fun _ => ⟨p3, fun _ => ⟨trivial, trivial⟩, fun _ => trivial⟩, fun _ => trivial⟩, fun _ => trivial⟩, fun _ => trivial⟩)

/-- compositor/real.mul -/
def c29 : Con := { f := 29, ps := [.agg [.int .i64, .int .i64], .agg [.int .i64, .int .i64]], rs := [.agg [.int .i64, .int .i64]] }
def t29 : Tr Leaf :=
 (.pre 0 [.v 0, .v 1, .v 2, .v 3]
 (.ret (.done [.app (.call 0 0) [.v 0, .v 1, .v 2, .v 3], .app (.call 0 1) [.v 0, .v 1, .v 2, .v 3]])))
def s29 : Sx.Spec := .auto c29 [s73] t29 (fun _ => True)
theorem t29_eq : ((fnC (PV.fast Tryz.prog) G (([s73] : List Sx.Spec).map (·.con)) [] 300 c29 20).prune []).toTr = t29 := by kernel_rfl
theorem s29_ok : s29.Ok Tryz.prog G := auto_ok (by simp only [List.mem_cons, List.not_mem_nil, or_false, forall_eq_or_imp, forall_eq]; exact s73_ok) 300 20 t29_eq (by
  intro ds _
  simp [t29, Tr.safe, preOf, s73, Sx.Spec.auto])

/-- compositor/real.add -/
def c61 : Con := { f := 61, ps := [.agg [.int .i64, .int .i64], .agg [.int .i64, .int .i64]], rs := [.agg [.int .i64, .int .i64]] }
def t61 : Tr Leaf :=
 (.pre 0 [.v 0, .v 1, .v 2, .v 3]
 (.ret (.done [.app (.call 0 0) [.v 0, .v 1, .v 2, .v 3], .app (.call 0 1) [.v 0, .v 1, .v 2, .v 3]])))
def s61 : Sx.Spec := .auto c61 [s113] t61 (fun _ => True)
theorem t61_eq : ((fnC (PV.fast Tryz.prog) G (([s113] : List Sx.Spec).map (·.con)) [] 300 c61 20).prune []).toTr = t61 := by kernel_rfl
theorem s61_ok : s61.Ok Tryz.prog G := auto_ok (by simp only [List.mem_cons, List.not_mem_nil, or_false, forall_eq_or_imp, forall_eq]; exact s113_ok) 300 20 t61_eq (by
  intro ds _
  simp [t61, Tr.safe, preOf, s113, Sx.Spec.auto])

/-- compositor/real.sub -/
def c62 : Con := { f := 62, ps := [.agg [.int .i64, .int .i64], .agg [.int .i64, .int .i64]], rs := [.agg [.int .i64, .int .i64]] }
def t62 : Tr Leaf :=
 (.pre 0 [.v 0, .v 1, .v 2, .v 3]
 (.ret (.done [.app (.call 0 0) [.v 0, .v 1, .v 2, .v 3], .app (.call 0 1) [.v 0, .v 1, .v 2, .v 3]])))
def s62 : Sx.Spec := .auto c62 [s114] t62 (fun _ => True)
theorem t62_eq : ((fnC (PV.fast Tryz.prog) G (([s114] : List Sx.Spec).map (·.con)) [] 300 c62 20).prune []).toTr = t62 := by kernel_rfl
theorem s62_ok : s62.Ok Tryz.prog G := auto_ok (by simp only [List.mem_cons, List.not_mem_nil, or_false, forall_eq_or_imp, forall_eq]; exact s114_ok) 300 20 t62_eq (by
  intro ds _
  simp [t62, Tr.safe, preOf, s114, Sx.Spec.auto])

/-- compositor/real.hull -/
def c119 : Con := { f := 119, ps := [.agg [.int .i64, .int .i64], .agg [.int .i64, .int .i64]], rs := [.agg [.int .i64, .int .i64]] }
def t119 : Tr Leaf :=
 (.pre 0 [.v 0, .v 1, .v 2, .v 3]
 (.ret (.done [.app (.call 0 0) [.v 0, .v 1, .v 2, .v 3], .app (.call 0 1) [.v 0, .v 1, .v 2, .v 3]])))
def s119 : Sx.Spec := .auto c119 [s170] t119 (fun _ => True)
theorem t119_eq : ((fnC (PV.fast Tryz.prog) G (([s170] : List Sx.Spec).map (·.con)) [] 300 c119 20).prune []).toTr = t119 := by kernel_rfl
theorem s119_ok : s119.Ok Tryz.prog G := auto_ok (by simp only [List.mem_cons, List.not_mem_nil, or_false, forall_eq_or_imp, forall_eq]; exact s170_ok) 300 20 t119_eq (by
  intro ds _
  simp [t119, Tr.safe, preOf, s170, Sx.Spec.auto])

/-- compositor/real.twice -/
def c72 : Con := { f := 72, ps := [.agg [.int .i64, .int .i64]], rs := [.agg [.int .i64, .int .i64]] }
def t72 : Tr Leaf :=
 (.pre 0 [.v 0, .v 1, .v 0, .v 1]
 (.ret (.done [.app (.call 0 0) [.v 0, .v 1, .v 0, .v 1], .app (.call 0 1) [.v 0, .v 1, .v 0, .v 1]])))
def s72 : Sx.Spec := .auto c72 [s61] t72 (fun _ => True)
theorem t72_eq : ((fnC (PV.fast Tryz.prog) G (([s61] : List Sx.Spec).map (·.con)) [] 300 c72 20).prune []).toTr = t72 := by kernel_rfl
theorem s72_ok : s72.Ok Tryz.prog G := auto_ok (by simp only [List.mem_cons, List.not_mem_nil, or_false, forall_eq_or_imp, forall_eq]; exact s61_ok) 300 20 t72_eq (by
  intro ds _
  simp [t72, Tr.safe, preOf, s61, Sx.Spec.auto])

/-- compositor/real.least -/
def c64 : Con := { f := 64, ps := [.agg [.int .i64, .int .i64], .agg [.int .i64, .int .i64]], rs := [.agg [.int .i64, .int .i64]] }
def t64 : Tr Leaf :=
 (.pre 0 [.v 0, .v 1, .v 2, .v 3]
 (.ret (.done [.app (.call 0 0) [.v 0, .v 1, .v 2, .v 3], .app (.call 0 1) [.v 0, .v 1, .v 2, .v 3]])))
def s64 : Sx.Spec := .auto c64 [s117] t64 (fun _ => True)
theorem t64_eq : ((fnC (PV.fast Tryz.prog) G (([s117] : List Sx.Spec).map (·.con)) [] 300 c64 20).prune []).toTr = t64 := by kernel_rfl
theorem s64_ok : s64.Ok Tryz.prog G := auto_ok (by simp only [List.mem_cons, List.not_mem_nil, or_false, forall_eq_or_imp, forall_eq]; exact s117_ok) 300 20 t64_eq (by
  intro ds _
  simp [t64, Tr.safe, preOf, s117, Sx.Spec.auto])

/-- compositor/real.most -/
def c65 : Con := { f := 65, ps := [.agg [.int .i64, .int .i64], .agg [.int .i64, .int .i64]], rs := [.agg [.int .i64, .int .i64]] }
def t65 : Tr Leaf :=
 (.pre 0 [.v 0, .v 1, .v 2, .v 3]
 (.ret (.done [.app (.call 0 0) [.v 0, .v 1, .v 2, .v 3], .app (.call 0 1) [.v 0, .v 1, .v 2, .v 3]])))
def s65 : Sx.Spec := .auto c65 [s118] t65 (fun _ => True)
theorem t65_eq : ((fnC (PV.fast Tryz.prog) G (([s118] : List Sx.Spec).map (·.con)) [] 300 c65 20).prune []).toTr = t65 := by kernel_rfl
theorem s65_ok : s65.Ok Tryz.prog G := auto_ok (by simp only [List.mem_cons, List.not_mem_nil, or_false, forall_eq_or_imp, forall_eq]; exact s118_ok) 300 20 t65_eq (by
  intro ds _
  simp [t65, Tr.safe, preOf, s118, Sx.Spec.auto])

/-- compositor/interval.scaled -/
def c216 : Con := { f := 216, ps := [.at (.int .i64), .at (.int .i64)], rs := [.at (.int .i64), .at (.int .i64), .at (.bool)] }
def t216 : Tr Leaf :=
 (.ask (.app (.cm .lt) [.v 0, .lit (.int (-1099511627776))])
  (.ret (.done [.lit (.int (0)), .lit (.int (0)), .lit (.bool false)]))
  (.ask (.app (.cm .gt) [.v 0, .lit (.int (1099511627776))])
   (.ret (.done [.lit (.int (0)), .lit (.int (0)), .lit (.bool false)]))
   (.ask (.app (.cm .lt) [.v 1, .lit (.int (-1099511627776))])
    (.ret (.done [.lit (.int (0)), .lit (.int (0)), .lit (.bool false)]))
    (.ask (.app (.cm .gt) [.v 1, .lit (.int (1099511627776))])
     (.ret (.done [.lit (.int (0)), .lit (.int (0)), .lit (.bool false)]))
     (.ask (.app (.cm .eq) [.v 1, .lit (.int (0))])
      (.ret (.done [.lit (.int (0)), .lit (.int (0)), .lit (.bool false)]))
      (.ask (.app (.cm .lt) [.v 1, .lit (.int (0))])
       (.pre 0 [.app (.ar .sub .i64) [.lit (.int (0)), .v 0], .lit (.int (1099511627776)), .app (.ar .sub .i64) [.lit (.int (0)), .v 1]]
       (.ret (.done [.app (.call 0 0) [.app (.ar .sub .i64) [.lit (.int (0)), .v 0], .lit (.int (1099511627776)), .app (.ar .sub .i64) [.lit (.int (0)), .v 1]], .app (.call 0 1) [.app (.ar .sub .i64) [.lit (.int (0)), .v 0], .lit (.int (1099511627776)), .app (.ar .sub .i64) [.lit (.int (0)), .v 1]], .app (.call 0 2) [.app (.ar .sub .i64) [.lit (.int (0)), .v 0], .lit (.int (1099511627776)), .app (.ar .sub .i64) [.lit (.int (0)), .v 1]]])))
       (.pre 0 [.v 0, .lit (.int (1099511627776)), .v 1]
       (.ret (.done [.app (.call 0 0) [.v 0, .lit (.int (1099511627776)), .v 1], .app (.call 0 1) [.v 0, .lit (.int (1099511627776)), .v 1], .app (.call 0 2) [.v 0, .lit (.int (1099511627776)), .v 1]])))))))))
def s216 : Sx.Spec := .auto c216 [s126] t216 (fun _ => True)
theorem t216_eq : ((fnC (PV.fast Tryz.prog) G (([s126] : List Sx.Spec).map (·.con)) [] 300 c216 20).prune []).toTr = t216 := by kernel_rfl
theorem s216_ok : s216.Ok Tryz.prog G := auto_ok (by simp only [List.mem_cons, List.not_mem_nil, or_false, forall_eq_or_imp, forall_eq]; exact s126_ok) 300 20 t216_eq (by
  intro ds _
  simp only [t216, Tr.safe, T.eval, T.evals, pe_ar, pe_wrap, pe_mn, pe_mx, pe_cm, pe_not, pe_beq, pe_ite, pe_len, pe_slen, pe_sat, pe_call, fnOf, cm_eq, cm_ne, cm_lt, cm_le, cm_gt, cm_ge, ar_add, ar_sub, ar_mul, ar_quo, ar_rem, ar_shl, ar_shr, wrap_u64, wrap_i64, wrap_u8, D.toInt_int, D.toBool_bool, decide_eq_true_eq, decide_eq_false_iff_not]
  refine ⟨fun _ => trivial, fun _ => ⟨fun _ => trivial, fun _ => ⟨fun _ => trivial, fun c1 => ⟨fun _ => trivial, fun c2 => ⟨fun _ => trivial, fun c3 => ⟨fun c4 => ⟨?_, trivial⟩, fun c4 => ⟨?_, trivial⟩⟩⟩⟩⟩⟩⟩
  · show 0 < (0 - (ds.getD 1 default).toInt + 9223372036854775808) % 18446744073709551616 - 9223372036854775808 ∧ (0 - (ds.getD 1 default).toInt + 9223372036854775808) % 18446744073709551616 - 9223372036854775808 < 9223372036854775808
    omega
  · show 0 < (ds.getD 1 default).toInt ∧ (ds.getD 1 default).toInt < 9223372036854775808
    omega)

/-- compositor/interval.Of -/
def c192 : Con := { f := 192, ps := [.at (.int .i64), .at (.int .i64)], rs := [.agg [.int .i64, .int .i64], .at (.bool)] }
def t192 : Tr Leaf :=
 (.pre 0 [.v 0, .v 1]
 (.pre 1 [.app (.call 0 0) [.v 0, .v 1], .app (.call 0 1) [.v 0, .v 1], .app (.call 0 2) [.v 0, .v 1]]
 (.ret (.done [.app (.call 1 0) [.app (.call 0 0) [.v 0, .v 1], .app (.call 0 1) [.v 0, .v 1], .app (.call 0 2) [.v 0, .v 1]], .app (.call 1 1) [.app (.call 0 0) [.v 0, .v 1], .app (.call 0 1) [.v 0, .v 1], .app (.call 0 2) [.v 0, .v 1]], .app (.call 1 2) [.app (.call 0 0) [.v 0, .v 1], .app (.call 0 1) [.v 0, .v 1], .app (.call 0 2) [.v 0, .v 1]]]))))
def s192 : Sx.Spec := .auto c192 [s216, s169] t192 (fun _ => True)
theorem t192_eq : ((fnC (PV.fast Tryz.prog) G (([s216, s169] : List Sx.Spec).map (·.con)) [] 300 c192 20).prune []).toTr = t192 := by kernel_rfl
theorem s192_ok : s192.Ok Tryz.prog G := auto_ok (by simp only [List.mem_cons, List.not_mem_nil, or_false, forall_eq_or_imp, forall_eq]; exact ⟨s216_ok, s169_ok⟩) 300 20 t192_eq (by
  intro ds _
  simp [t192, Tr.safe, preOf, s216, s169, Sx.Spec.auto])
end Go.Proofs.YteaiikmijhikpaaGreatDoor
end
section
namespace Go.Proofs.YteaiikmijhikpaaGreatDoor
open Go Go.Sx
set_option maxRecDepth 100000

theorem mul_parts {x y : Int} (hx0 : 0 ≤ x) (hx : x < 18446744073709551616) (hy0 : 0 ≤ y) (hy : y < 18446744073709551616) :
    x * y = x / 4294967296 * (y / 4294967296) * 18446744073709551616 + (x / 4294967296 * (y % 4294967296) + x % 4294967296 * (y / 4294967296)) * 4294967296 + x % 4294967296 * (y % 4294967296) ∧
    (0 ≤ x / 4294967296 * (y / 4294967296) ∧ x / 4294967296 * (y / 4294967296) ≤ 18446744065119617025) ∧ (0 ≤ x / 4294967296 * (y % 4294967296) ∧ x / 4294967296 * (y % 4294967296) ≤ 18446744065119617025) ∧
    (0 ≤ x % 4294967296 * (y / 4294967296) ∧ x % 4294967296 * (y / 4294967296) ≤ 18446744065119617025) ∧ 0 ≤ x % 4294967296 * (y % 4294967296) ∧ x % 4294967296 * (y % 4294967296) ≤ 18446744065119617025 := by
  have b : ∀ a b : Int, 0 ≤ a → a ≤ 4294967295 → 0 ≤ b → b ≤ 4294967295 → 0 ≤ a * b ∧ a * b ≤ 18446744065119617025 := fun a b h1 h2 h3 h4 => by
    refine ⟨Int.mul_nonneg h1 h3, ?_⟩
    have := L64.mul_le h2 h3
    omega
  refine ⟨?_, b _ _ (by omega) (by omega) (by omega) (by omega), b _ _ (by omega) (by omega) (by omega) (by omega), b _ _ (by omega) (by omega) (by omega) (by omega), b _ _ (by omega) (by omega) (by omega) (by omega)⟩
  have ex : x = x / 4294967296 * 4294967296 + x % 4294967296 := by omega
  have ey : y = y / 4294967296 * 4294967296 + y % 4294967296 := by omega
  generalize x / 4294967296 = p at *
  generalize x % 4294967296 = q at *
  generalize y / 4294967296 = r at *
  generalize y % 4294967296 = s at *
  subst ex ey
  rw [Int.add_mul, Int.mul_add, Int.mul_add]
  have e1 : p * 4294967296 * (r * 4294967296) = p * r * 18446744073709551616 := by
    rw [Int.mul_assoc p, ← Int.mul_assoc 4294967296 r, Int.mul_comm 4294967296 r, Int.mul_assoc r, ← Int.mul_assoc p]; rfl
  have e2 : p * 4294967296 * s = p * s * 4294967296 := Int.mul_right_comm _ _ _
  have e3 : q * (r * 4294967296) = q * r * 4294967296 := (Int.mul_assoc _ _ _).symm
  rw [e1, e2, e3]
  omega
theorem s166_val (a b : D) (hx0 : 0 ≤ a.toInt) (hx : a.toInt < 18446744073709551616) (hy0 : 0 ≤ b.toInt) (hy : b.toInt < 18446744073709551616) :
    s166.fn [a, b] = [.int (a.toInt * b.toInt / 18446744073709551616), .int (a.toInt * b.toInt % 18446744073709551616)] := by
  have e : s166.fn [a, b] = t166.run (fnOf []) [a, b] := rfl
  have m3 : ∀ x : Int, x.fdiv (2 ^ (min (32 : Int).toNat IntKind.u64.bits)) = x / 4294967296 := fun x => Int.fdiv_eq_ediv_of_nonneg _ (by decide)
  rw [e]
  simp only [t166, Tr.run, T.eval, T.evals, pe_ar, pe_wrap, pe_mn, pe_mx, pe_cm, pe_not, pe_beq, pe_ite, pe_len, pe_slen, pe_sat, pe_call, fnOf, cm_eq, cm_ne, cm_lt, cm_le, cm_gt, cm_ge, ar_add, ar_sub, ar_mul, ar_quo, ar_rem, ar_shl, ar_shr, wrap_u64, wrap_i64, wrap_u8, List.getD_cons_zero, List.getD_cons_succ, D.toInt_int, m3]
  obtain ⟨h, ⟨b1, c1⟩, ⟨b2, c2⟩, ⟨b3, c3⟩, b4, c4⟩ := mul_parts hx0 hx hy0 hy
  rw [mask32 hx0 hx, mask32 hy0 hy]
  generalize a.toInt * b.toInt = z at *
  generalize a.toInt / 4294967296 * (b.toInt / 4294967296) = p11 at *
  generalize a.toInt / 4294967296 * (b.toInt % 4294967296) = p10 at *
  generalize a.toInt % 4294967296 * (b.toInt / 4294967296) = p01 at *
  generalize a.toInt % 4294967296 * (b.toInt % 4294967296) = p00 at *
  rw [mask32 (by omega) (by omega)]
  congr 2
  omega
theorem s172_val (a b : D) (hx0 : 0 ≤ a.toInt) (hx : a.toInt < 18446744073709551616) (hy0 : 0 ≤ b.toInt) (hy : b.toInt < 18446744073709551616) :
    s172.fn [a, b] = [.int (a.toInt * b.toInt / 18446744073709551616), .int (a.toInt * b.toInt % 18446744073709551616)] := by
  have e : s172.fn [a, b] = t172.run (fnOf [s166]) [a, b] := rfl
  rw [e]
  simp only [t172, Tr.run, T.eval, T.evals, pe_ar, pe_wrap, pe_mn, pe_mx, pe_cm, pe_not, pe_beq, pe_ite, pe_len, pe_slen, pe_sat, pe_call, fnOf, cm_eq, cm_ne, cm_lt, cm_le, cm_gt, cm_ge, ar_add, ar_sub, ar_mul, ar_quo, ar_rem, ar_shl, ar_shr, wrap_u64, wrap_i64, wrap_u8, List.getD_cons_zero, List.getD_cons_succ, D.toInt_int, s166_val a b hx0 hx hy0 hy]
end Go.Proofs.YteaiikmijhikpaaGreatDoor
end
section
namespace Go.Proofs.YteaiikmijhikpaaGreatDoor
open Go Go.Sx
set_option maxRecDepth 100000

theorem s209_val (a b : D) : s209.fn [a, b] = [.int (if a.toInt < b.toInt then -1 else if b.toInt < a.toInt then 1 else 0)] := by
  have e : s209.fn [a, b] = t209.run (fnOf []) [a, b] := rfl
  rw [e]
  simp only [t209, Tr.run, T.eval, T.evals, pe_ar, pe_wrap, pe_mn, pe_mx, pe_cm, pe_not, pe_beq, pe_ite, pe_len, pe_slen, pe_sat, pe_call, fnOf, cm_eq, cm_ne, cm_lt, cm_le, cm_gt, cm_ge, ar_add, ar_sub, ar_mul, ar_quo, ar_rem, ar_shl, ar_shr, wrap_u64, wrap_i64, wrap_u8, List.getD_cons_zero, List.getD_cons_succ, D.toInt_int, D.toBool_bool]
  by_cases h1 : a.toInt < b.toInt
  · simp [h1]
  · by_cases h2 : b.toInt < a.toInt
    · simp [h1, h2]
    · simp [h1, h2]
theorem s174_val (a b c d : D) (hb0 : 0 ≤ b.toInt) (hb : b.toInt < 18446744073709551616) (hd0 : 0 ≤ d.toInt) (hd : d.toInt < 18446744073709551616) :
    s174.fn [a, b, c, d] = [.int (if a.toInt * 18446744073709551616 + b.toInt < c.toInt * 18446744073709551616 + d.toInt then -1 else if c.toInt * 18446744073709551616 + d.toInt < a.toInt * 18446744073709551616 + b.toInt then 1 else 0)] := by
  have e : s174.fn [a, b, c, d] = t174.run (fnOf [s209]) [a, b, c, d] := rfl
  rw [e]
  simp only [t174, Tr.run, T.eval, T.evals, pe_ar, pe_wrap, pe_mn, pe_mx, pe_cm, pe_not, pe_beq, pe_ite, pe_len, pe_slen, pe_sat, pe_call, fnOf, cm_eq, cm_ne, cm_lt, cm_le, cm_gt, cm_ge, ar_add, ar_sub, ar_mul, ar_quo, ar_rem, ar_shl, ar_shr, wrap_u64, wrap_i64, wrap_u8, List.getD_cons_zero, List.getD_cons_succ, D.toInt_int, D.toBool_bool, s209_val]
  generalize a.toInt = a at *
  generalize b.toInt = b at *
  generalize c.toInt = c at *
  generalize d.toInt = d at *
  rcases Int.lt_trichotomy a c with h | h | h
  · rw [if_pos h, if_pos (show a * 18446744073709551616 + b < c * 18446744073709551616 + d by omega)]; rfl
  · subst h
    rw [if_neg (Int.lt_irrefl a), if_neg (Int.lt_irrefl a)]
    rcases Int.lt_trichotomy b d with h | h | h
    · rw [if_pos h, if_pos (show a * 18446744073709551616 + b < a * 18446744073709551616 + d by omega)]; rfl
    · subst h
      simp
    · rw [if_neg (show ¬ b < d by omega), if_pos h, if_neg (show ¬ a * 18446744073709551616 + b < a * 18446744073709551616 + d by omega), if_pos (show a * 18446744073709551616 + d < a * 18446744073709551616 + b by omega)]; rfl
  · rw [if_neg (show ¬ a < c by omega), if_pos h, if_neg (show ¬ a * 18446744073709551616 + b < c * 18446744073709551616 + d by omega), if_pos (show c * 18446744073709551616 + d < a * 18446744073709551616 + b by omega)]; rfl

/-- The root, bit by bit. -/
def isqGo : Nat → Nat → Nat → Nat
  | 0, x, _ => x
  | k + 1, x, n => if (x + 2 ^ k) * (x + 2 ^ k) ≤ n then isqGo k (x + 2 ^ k) n else isqGo k x n
def isq (n : Nat) : Nat := isqGo 64 0 n
theorem isqGo_spec : ∀ (k x n : Nat), x * x ≤ n → n < (x + 2 ^ k) * (x + 2 ^ k) → isqGo k x n * isqGo k x n ≤ n ∧ n < (isqGo k x n + 1) * (isqGo k x n + 1)
  | 0, x, n, h1, h2 => ⟨h1, by simpa [isqGo] using h2⟩
  | k + 1, x, n, h1, h2 => by
    simp only [isqGo]
    split
    · rename_i h
      exact isqGo_spec k _ n h (by rw [Nat.pow_succ] at h2; rw [show x + 2 ^ k + 2 ^ k = x + 2 ^ k * 2 from by omega]; exact h2)
    · rename_i h
      exact isqGo_spec k _ n h1 (by omega)
theorem isq_spec {n : Nat} (h : n < 340282366920938463463374607431768211456) : isq n * isq n ≤ n ∧ n < (isq n + 1) * (isq n + 1) :=
  isqGo_spec 64 0 n (by omega) (by simpa using h)
theorem isq_only {n r : Nat} (h : n < 340282366920938463463374607431768211456) (h1 : r * r ≤ n) (h2 : n < (r + 1) * (r + 1)) : r = isq n := by
  obtain ⟨g1, g2⟩ := isq_spec h
  rcases Nat.lt_trichotomy r (isq n) with h' | h' | h'
  · have := Nat.mul_le_mul (show r + 1 ≤ isq n by omega) (show r + 1 ≤ isq n by omega); omega
  · exact h'
  · have := Nat.mul_le_mul (show isq n + 1 ≤ r by omega) (show isq n + 1 ≤ r by omega); omega
/-- compositor/wide.Sqrt -/
def c173 : Con := { f := 173, ps := [.agg [.int .u64, .int .u64]], rs := [.at (.int .u64)] }
def p173_3 : Tmpl := tmplOf 23 [(1, .ptr 0 0), (3, .int .u64 (.v 0)), (4, .int .u64 (.v 0))] [(0, .cells [.int .u64 (.v 0), .int .u64 (.v 0)] 62)] 1
noncomputable def t173 : Tr Leaf :=
 (.ret (.cut 0 (todoOf (PV.fast Tryz.prog) 173 3) [.lit (.int (0)), .lit (.int (9223372036854775808)), .v 0, .v 1]))
theorem t173_eq : ((fnC (PV.fast Tryz.prog) G (([s172, s174] : List Sx.Spec).map (·.con)) [⟨3, p173_3⟩] 300 c173 20).prune []).toTr = t173 := by kernel_rfl
noncomputable def t173_3 : Tr Leaf :=
 (.ask (.app (.cm .gt) [.v 1, .lit (.int (0))])
  (.pre 0 [.app (.ar .or .u64) [.v 0, .v 1], .app (.ar .or .u64) [.v 0, .v 1]]
  (.pre 1 [.app (.call 0 0) [.app (.ar .or .u64) [.v 0, .v 1], .app (.ar .or .u64) [.v 0, .v 1]], .app (.call 0 1) [.app (.ar .or .u64) [.v 0, .v 1], .app (.ar .or .u64) [.v 0, .v 1]], .v 2, .v 3]
  (.ask (.app (.cm .le) [.app (.call 1 0) [.app (.call 0 0) [.app (.ar .or .u64) [.v 0, .v 1], .app (.ar .or .u64) [.v 0, .v 1]], .app (.call 0 1) [.app (.ar .or .u64) [.v 0, .v 1], .app (.ar .or .u64) [.v 0, .v 1]], .v 2, .v 3], .lit (.int (0))])
   (.ret (.cut 0 (todoOf (PV.fast Tryz.prog) 173 3) [.app (.ar .or .u64) [.v 0, .v 1], .app (.ar .shr .u64) [.v 1, .lit (.int (1))], .v 2, .v 3]))
   (.ret (.cut 0 (todoOf (PV.fast Tryz.prog) 173 3) [.v 0, .app (.ar .shr .u64) [.v 1, .lit (.int (1))], .v 2, .v 3])))))
  (.ret (.done [.v 0])))
theorem t173_3_eq : ((tlC (PV.fast Tryz.prog) G (([s172, s174] : List Sx.Spec).map (·.con)) [⟨3, p173_3⟩] 300 c173 20 p173_3 3).prune []).toTr = t173_3 := by kernel_rfl

def wN (a b : D) : Nat := (a.toInt * 18446744073709551616 + b.toInt).toNat
def sqF (ds : List D) : List D := [.int (isq (wN (ds.getD 0 default) (ds.getD 1 default)))]
def s173 : Sx.Spec where
  con := { c173 with fold := some sqF }
  pre ds := (0 ≤ (ds.getD 0 default).toInt ∧ (ds.getD 0 default).toInt < 18446744073709551616) ∧ 0 ≤ (ds.getD 1 default).toInt ∧ (ds.getD 1 default).toInt < 18446744073709551616
  fn := sqF
def e173_3 : Tail where
  id := 3
  τ := p173_3
  pre ds := ((0 ≤ (ds.getD 2 default).toInt ∧ (ds.getD 2 default).toInt < 18446744073709551616) ∧ 0 ≤ (ds.getD 3 default).toInt ∧ (ds.getD 3 default).toInt < 18446744073709551616) ∧
    ∃ k z : Nat, k ≤ 64 ∧ (ds.getD 1 default).toInt = ((2 ^ k / 2 : Nat) : Int) ∧ (ds.getD 0 default).toInt = ((z * 2 ^ k : Nat) : Int) ∧ (z + 1) * 2 ^ k ≤ 18446744073709551616 ∧
      z * 2 ^ k * (z * 2 ^ k) ≤ wN (ds.getD 2 default) (ds.getD 3 default) ∧ wN (ds.getD 2 default) (ds.getD 3 default) < (z * 2 ^ k + 2 ^ k) * (z * 2 ^ k + 2 ^ k)
  fn ds := [.int (isq (wN (ds.getD 2 default) (ds.getD 3 default)))]
  meas ds := (ds.getD 1 default).toInt.toNat
theorem v173_3 (ds : List D) (h : e173_3.pre ds) : t173_3.holds (fnOf [s172, s174]) (preOf [s172, s174]) ds (Leaf.Ok (PV.fast Tryz.prog) c173 [e173_3] (fnOf [s172, s174]) ds (e173_3.fn ds) (· < e173_3.meas ds)) := by
  obtain ⟨⟨⟨ha0, ha⟩, hb0, hb⟩, k, z, hk, hbit, hx, hz, h1, h2⟩ := h
  have hm : e173_3.meas ds = (ds.getD 1 default).toInt.toNat := rfl
  have hg : e173_3.fn ds = [.int (isq (wN (ds.getD 2 default) (ds.getD 3 default)))] := rfl
  have hN : (wN (ds.getD 2 default) (ds.getD 3 default) : Int) = (ds.getD 2 default).toInt * 18446744073709551616 + (ds.getD 3 default).toInt := Int.toNat_of_nonneg (by omega)
  have hN2 : wN (ds.getD 2 default) (ds.getD 3 default) < 340282366920938463463374607431768211456 := by omega
  have m1 : ∀ x : Int, x.fdiv (2 ^ (min (1 : Int).toNat IntKind.u64.bits)) = x / 2 := fun x => Int.fdiv_eq_ediv_of_nonneg _ (by decide)
  rw [hm, hg]
  generalize hn : wN (ds.getD 2 default) (ds.getD 3 default) = n at *
  simp only [t173_3, Tr.holds, T.eval, T.evals, pe_ar, pe_wrap, pe_mn, pe_mx, pe_cm, pe_not, pe_beq, pe_ite, pe_len, pe_slen, pe_sat, pe_call, fnOf, cm_eq, cm_ne, cm_lt, cm_le, cm_gt, cm_ge, ar_add, ar_sub, ar_mul, ar_quo, ar_rem, ar_shl, ar_shr, wrap_u64, wrap_i64, wrap_u8, D.toInt_int, D.toBool_bool, decide_eq_true_eq, decide_eq_false_iff_not, Leaf.Ok, m1]
  refine ⟨fun c => ⟨trivial, trivial, ?_⟩, fun c => ⟨?_, trivial⟩⟩
  · -- a bit more
    cases k with
    | zero => rw [show (2 : Nat) ^ 0 / 2 = 0 from rfl] at hbit; omega
    | succ k =>
      have e2 : (2 : Nat) ^ (k + 1) = 2 ^ k * 2 := Nat.pow_succ _ _
      have hp : 0 < 2 ^ k := Nat.pow_pos (by omega)
      rw [e2, Nat.mul_div_cancel _ (by omega)] at hbit
      have ez : z * (2 ^ k * 2) = z * 2 * 2 ^ k := by rw [Nat.mul_comm (2 ^ k) 2, Nat.mul_assoc]
      have ez1 : (z + 1) * (2 ^ k * 2) = z * 2 * 2 ^ k + 2 ^ k * 2 := by rw [Nat.add_mul, Nat.one_mul, ez]
      rw [e2] at hx h1 h2 hz
      rw [ez1] at hz
      rw [ez] at hx h1 h2
      have hor : Ar.eval .or .u64 (ds.getD 0 default).toInt (ds.getD 1 default).toInt = ((z * 2 * 2 ^ k + 2 ^ k : Nat) : Int) := by
        have := or_shift (a := (z : Int)) (b := ((2 ^ k : Nat) : Int)) (s := k + 1) (by omega) (by omega) (by
          have : ((2 ^ (k + 1) : Nat) : Int) = (2 : Int) ^ (k + 1) := by simp
          rw [← this]; omega) (by
          have : ((z * 2 ^ (k + 1) : Nat) : Int) = (z : Int) * 2 ^ (k + 1) := by simp
          rw [← this, e2, ez]; omega) (by omega)
        have e3 : ((z * 2 ^ (k + 1) : Nat) : Int) = (z : Int) * 2 ^ (k + 1) := by simp
        rw [← e3, e2, ez] at this
        rw [hx, hbit, this]; omega
      rw [hor]
      generalize hX : z * 2 * 2 ^ k + 2 ^ k = X at *
      have hXlt : X < 18446744073709551616 := by omega
      have hz1 : (z * 2 + 1) * 2 ^ k = X := by rw [Nat.add_mul, Nat.one_mul, hX]
      have v := s172_val (.int (X : Int)) (.int (X : Int)) (by rw [D.toInt_int]; omega) (by rw [D.toInt_int]; omega) (by rw [D.toInt_int]; omega) (by rw [D.toInt_int]; omega)
      simp only [D.toInt_int] at v
      rw [v]
      simp only [List.getD_cons_zero, List.getD_cons_succ]
      have hXX : ((X * X : Nat) : Int) = (X : Int) * X := Int.natCast_mul _ _
      have v2 := s174_val (.int ((X : Int) * X / 18446744073709551616)) (.int ((X : Int) * X % 18446744073709551616)) (ds.getD 2 default) (ds.getD 3 default) (by rw [D.toInt_int]; omega) (by rw [D.toInt_int]; omega) hb0 hb
      simp only [D.toInt_int] at v2
      rw [v2]
      simp only [List.getD_cons_zero, D.toInt_int]
      rw [show (X : Int) * X / 18446744073709551616 * 18446744073709551616 + (X : Int) * X % 18446744073709551616 = ((X * X : Nat) : Int) by rw [hXX]; omega, ← hN]
      have hhalf : ((ds.getD 1 default).toInt / 2) = ((2 ^ k / 2 : Nat) : Int) := by rw [hbit]; omega
      have hmeas : ((2 ^ k / 2 : Nat) : Int).toNat < (ds.getD 1 default).toInt.toNat := by rw [hbit]; omega
      refine ⟨fun c2 => ⟨e173_3, rfl, rfl, ⟨⟨⟨ha0, ha⟩, hb0, hb⟩, k, z * 2 + 1, by omega, hhalf, ?_, ?_, ?_, ?_⟩, ?_, ?_⟩, fun c2 => ⟨e173_3, rfl, rfl, ⟨⟨⟨ha0, ha⟩, hb0, hb⟩, k, z * 2, by omega, hhalf, hx, ?_, ?_, ?_⟩, ?_, ?_⟩⟩
      · show (X : Int) = _
        rw [hz1]
      · rw [Nat.add_mul, Nat.one_mul, hz1]; omega
      · show _ ≤ wN (ds.getD 2 default) (ds.getD 3 default)
        rw [hz1, hn]
        split at c2
        · omega
        · split at c2 <;> omega
      · show wN (ds.getD 2 default) (ds.getD 3 default) < _
        rw [hz1, hn, show X + 2 ^ k = z * 2 * 2 ^ k + 2 ^ k * 2 from by omega]
        exact h2
      · show ((ds.getD 1 default).toInt / 2).toNat < _
        rw [hhalf]; exact hmeas
      · show AgreeS c173.rs [.int (isq (wN (ds.getD 2 default) (ds.getD 3 default)))] _
        rw [hn]; exact AgreeS.refl _ _
      · rw [Nat.add_mul, Nat.one_mul]; omega
      · show _ ≤ wN (ds.getD 2 default) (ds.getD 3 default)
        rw [hn]; exact h1
      · show wN (ds.getD 2 default) (ds.getD 3 default) < _
        rw [hn, hX]
        split at c2
        · omega
        · split at c2 <;> omega
      · show ((ds.getD 1 default).toInt / 2).toNat < _
        rw [hhalf]; exact hmeas
      · show AgreeS c173.rs [.int (isq (wN (ds.getD 2 default) (ds.getD 3 default)))] _
        rw [hn]; exact AgreeS.refl _ _
  · -- the end
    have hk0 : k = 0 := by
      cases k with
      | zero => rfl
      | succ k =>
        have hp : 0 < 2 ^ k := Nat.pow_pos (by omega)
        rw [Nat.pow_succ, Nat.mul_div_cancel _ (by omega)] at hbit
        omega
    subst hk0
    simp only [Nat.pow_zero, Nat.mul_one] at hx h1 h2
    simp only [List.headD_cons, Agree, D.toInt_int]
    rw [hx, isq_only hN2 h1 h2]
theorem v173 (ds : List D) (h : s173.pre ds) : t173.holds (fnOf [s172, s174]) (preOf [s172, s174]) ds (Leaf.Ok (PV.fast Tryz.prog) c173 [e173_3] (fnOf [s172, s174]) ds (s173.fn ds) (fun _ => True)) := by
  obtain ⟨⟨ha0, ha⟩, hb0, hb⟩ := h
  have hN : (wN (ds.getD 0 default) (ds.getD 1 default) : Int) = (ds.getD 0 default).toInt * 18446744073709551616 + (ds.getD 1 default).toInt := Int.toNat_of_nonneg (by omega)
  refine ⟨e173_3, rfl, rfl, ⟨⟨⟨ha0, ha⟩, hb0, hb⟩, 64, 0, by omega, by show (9223372036854775808 : Int) = _; decide, by show (0 : Int) = _; simp, by decide, by omega, ?_⟩, trivial, AgreeS.refl _ _⟩
  show wN (ds.getD 0 default) (ds.getD 1 default) < _
  have : (0 * 2 ^ 64 + 2 ^ 64) * (0 * 2 ^ 64 + 2 ^ 64) = 340282366920938463463374607431768211456 := by decide
  rw [this]; omega
theorem s173_ok : s173.Ok Tryz.prog G := by
  refine spec_cut [s172, s174] (by simp only [List.mem_cons, List.not_mem_nil, or_false, forall_eq_or_imp, forall_eq]; exact ⟨s172_ok, s174_ok⟩) s173 [e173_3] 300 20 (fun g hg ds _ => by simp only [s173, Option.some.injEq] at hg ⊢; rw [hg]) ?_ t173 t173_eq v173
  intro t ht
  simp only [List.mem_cons, List.not_mem_nil, or_false] at ht
  subst ht
  exact ⟨t173_3, t173_3_eq, v173_3⟩
end Go.Proofs.YteaiikmijhikpaaGreatDoor
end
