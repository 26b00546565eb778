/- Contracts of small functions of the program and the arithmetic of 64 bits, each for every input that its precondition allows. -/
import Derived.Test.YteaiikmijhikpaaGreatDoorSxC
import Derived.Test.YteaiikmijhikpaaGreatDoorProg
import Derived.KernelRfl
set_option linter.all false
section
namespace Go.Proofs.YteaiikmijhikpaaGreatDoor
open Go Go.Sx
set_option maxRecDepth 100000
def gNames : List Value := [.string ⟨#[]⟩, .string ⟨#[110, 111, 114, 109, 97, 108]⟩, .string ⟨#[109, 117, 108, 116, 105, 112, 108, 121]⟩, .string ⟨#[115, 99, 114, 101, 101, 110]⟩, .string ⟨#[111, 118, 101, 114, 108, 97, 121]⟩, .string ⟨#[100, 97, 114, 107, 101, 110]⟩, .string ⟨#[108, 105, 103, 104, 116, 101, 110]⟩, .string ⟨#[99, 111, 108, 111, 114, 45, 100, 111, 100, 103, 101]⟩, .string ⟨#[99, 111, 108, 111, 114, 45, 98, 117, 114, 110]⟩, .string ⟨#[104, 97, 114, 100, 45, 108, 105, 103, 104, 116]⟩, .string ⟨#[115, 111, 102, 116, 45, 108, 105, 103, 104, 116]⟩, .string ⟨#[100, 105, 102, 102, 101, 114, 101, 110, 99, 101]⟩, .string ⟨#[101, 120, 99, 108, 117, 115, 105, 111, 110]⟩]
def gRules : List Value := [.string ⟨#[]⟩, .int .i64 0, .int .i64 0, .int .i64 0, .string ⟨#[99, 108, 101, 97, 114]⟩, .int .i64 0, .int .i64 0, .int .i64 0, .string ⟨#[115, 114, 99]⟩, .int .i64 1, .int .i64 0, .int .i64 1, .string ⟨#[100, 115, 116]⟩, .int .i64 0, .int .i64 1, .int .i64 2, .string ⟨#[115, 114, 99, 45, 111, 118, 101, 114]⟩, .int .i64 1, .int .i64 3, .int .i64 3, .string ⟨#[100, 115, 116, 45, 111, 118, 101, 114]⟩, .int .i64 3, .int .i64 1, .int .i64 3, .string ⟨#[115, 114, 99, 45, 105, 110]⟩, .int .i64 2, .int .i64 0, .int .i64 4, .string ⟨#[100, 115, 116, 45, 105, 110]⟩, .int .i64 0, .int .i64 2, .int .i64 4, .string ⟨#[115, 114, 99, 45, 111, 117, 116]⟩, .int .i64 3, .int .i64 0, .int .i64 1, .string ⟨#[100, 115, 116, 45, 111, 117, 116]⟩, .int .i64 0, .int .i64 3, .int .i64 2, .string ⟨#[115, 114, 99, 45, 97, 116, 111, 112]⟩, .int .i64 2, .int .i64 3, .int .i64 2, .string ⟨#[100, 115, 116, 45, 97, 116, 111, 112]⟩, .int .i64 3, .int .i64 2, .int .i64 1, .string ⟨#[120, 111, 114]⟩, .int .i64 3, .int .i64 3, .int .i64 3]
def G : Nat → Option (List Value)
  | 2 => some gNames
  | 3 => some gRules
  | _ => none

/-- How terms and trees are worked out. -/
theorem getD_nil' (n : Nat) : ([] : List D).getD n default = default := rfl
end Go.Proofs.YteaiikmijhikpaaGreatDoor
end
section
namespace Go.Proofs.YteaiikmijhikpaaGreatDoor
open Go Go.Sx
set_option maxRecDepth 100000
def lenTab : ByteArray := ⟨#[0,1,2,2,3,3,3,3,4,4,4,4,4,4,4,4,5,5,5,5,5,5,5,5,5,5,5,5,5,5,5,5,6,6,6,6,6,6,6,6,6,6,6,6,6,6,6,6,6,6,6,6,6,6,6,6,6,6,6,6,6,6,6,6,7,7,7,7,7,7,7,7,7,7,7,7,7,7,7,7,7,7,7,7,7,7,7,7,7,7,7,7,7,7,7,7,7,7,7,7,7,7,7,7,7,7,7,7,7,7,7,7,7,7,7,7,7,7,7,7,7,7,7,7,7,7,7,7,8,8,8,8,8,8,8,8,8,8,8,8,8,8,8,8,8,8,8,8,8,8,8,8,8,8,8,8,8,8,8,8,8,8,8,8,8,8,8,8,8,8,8,8,8,8,8,8,8,8,8,8,8,8,8,8,8,8,8,8,8,8,8,8,8,8,8,8,8,8,8,8,8,8,8,8,8,8,8,8,8,8,8,8,8,8,8,8,8,8,8,8,8,8,8,8,8,8,8,8,8,8,8,8,8,8,8,8,8,8,8,8,8,8,8,8,8,8,8,8,8,8,8,8,8,8,8,8]⟩
/-- compositor/compositorgen.Mod -/
def c9 : Con := { f := 9, ps := [.at (.int .i64), .at (.int .i64)], rs := [.at (.int .i64)] }
def t9 : Tr Leaf :=
 (.ask (.app (.cm .lt) [.v 1, .lit (.int (1))])
  (.ret (.done [.lit (.int (0))]))
  (.need (.app (.cm .ne) [.v 1, .lit (.int (0))])
  (.need (.app (.cm .ne) [.v 1, .lit (.int (0))])
  (.ret (.done [.app (.ar .rem .i64) [.app (.ar .add .i64) [.app (.ar .rem .i64) [.v 0, .v 1], .v 1], .v 1]])))))
def s9 : Sx.Spec := .auto c9 [] t9 (fun _ => True)
theorem t9_eq : ((fnC (PV.fast Tryz.prog) G (([] : List Sx.Spec).map (·.con)) [] 300 c9 20).prune []).toTr = t9 := by kernel_rfl
theorem s9_ok : s9.Ok Tryz.prog G := auto_ok (by simp) 300 20 t9_eq (by
  intro ds _
  simp [t9, Tr.safe, preOf, T.eval, T.evals, pe_ar, pe_wrap, pe_mn, pe_mx, pe_cm, pe_not, pe_beq, pe_ite, pe_len, pe_slen, pe_sat, pe_call, fnOf, cm_eq, cm_ne, cm_lt, cm_le, cm_gt, cm_ge, ar_add, ar_sub, ar_mul, ar_quo, ar_rem, ar_shl, ar_shr, wrap_u64, wrap_i64, wrap_u8]
  omega)

/-- compositor/interval.Valid -/
def c24 : Con := { f := 24, ps := [.agg [.int .i64, .int .i64]], rs := [.at (.bool)] }
def t24 : Tr Leaf :=
 (.ask (.app (.cm .le) [.v 0, .v 1])
  (.ask (.app (.cm .ge) [.v 0, .lit (.int (-17592186044416))])
   (.ret (.done [.app (.cm .le) [.v 1, .lit (.int (17592186044416))]]))
   (.ret (.done [.lit (.bool false)])))
  (.ret (.done [.lit (.bool false)])))
def s24 : Sx.Spec := .auto c24 [] t24 (fun _ => True)
theorem t24_eq : ((fnC (PV.fast Tryz.prog) G (([] : List Sx.Spec).map (·.con)) [] 300 c24 20).prune []).toTr = t24 := by kernel_rfl
theorem s24_ok : s24.Ok Tryz.prog G := auto_ok (by simp) 300 20 t24_eq (by
  intro ds _; simp [t24, Tr.safe, preOf])

/-- compositor/compositorref28.Valid -/
def c12 : Con := { f := 12, ps := [.agg [.int .i64, .int .i64]], rs := [.at (.bool)] }
def t12 : Tr Leaf :=
 (.ask (.app (.cm .le) [.v 0, .v 1])
  (.ask (.app (.cm .ge) [.v 0, .lit (.int (-17592186044416))])
   (.ret (.done [.app (.cm .le) [.v 1, .lit (.int (17592186044416))]]))
   (.ret (.done [.lit (.bool false)])))
  (.ret (.done [.lit (.bool false)])))
def s12 : Sx.Spec := .auto c12 [] t12 (fun _ => True)
theorem t12_eq : ((fnC (PV.fast Tryz.prog) G (([] : List Sx.Spec).map (·.con)) [] 300 c12 20).prune []).toTr = t12 := by kernel_rfl
theorem s12_ok : s12.Ok Tryz.prog G := auto_ok (by simp) 300 20 t12_eq (by
  intro ds _; simp [t12, Tr.safe, preOf])

/-- compositor/interval.made -/
def c169 : Con := { f := 169, ps := [.at (.int .i64), .at (.int .i64), .at (.bool)], rs := [.agg [.int .i64, .int .i64], .at (.bool)] }
def t169 : Tr Leaf :=
 (.ask (.v 2)
  (.ask (.app (.cm .le) [.v 0, .v 1])
   (.ask (.app (.cm .ge) [.v 0, .lit (.int (-17592186044416))])
    (.ask (.app (.cm .le) [.v 1, .lit (.int (17592186044416))])
     (.ret (.done [.v 0, .v 1, .lit (.bool true)]))
     (.ret (.done [.lit (.int (0)), .lit (.int (0)), .lit (.bool false)])))
    (.ret (.done [.lit (.int (0)), .lit (.int (0)), .lit (.bool false)])))
   (.ret (.done [.lit (.int (0)), .lit (.int (0)), .lit (.bool false)])))
  (.ret (.done [.lit (.int (0)), .lit (.int (0)), .lit (.bool false)])))
def s169 : Sx.Spec := .auto c169 [] t169 (fun _ => True)
theorem t169_eq : ((fnC (PV.fast Tryz.prog) G (([] : List Sx.Spec).map (·.con)) [] 300 c169 20).prune []).toTr = t169 := by kernel_rfl
theorem s169_ok : s169.Ok Tryz.prog G := auto_ok (by simp) 300 20 t169_eq (by
  intro ds _; simp [t169, Tr.safe, preOf])

/-- compositor/interval.size -/
def c175 : Con := { f := 175, ps := [.at (.int .i64)], rs := [.at (.int .u64)] }
def t175 : Tr Leaf :=
 (.ask (.app (.cm .lt) [.v 0, .lit (.int (0))])
  (.ret (.done [.app (.wrap .u64) [.app (.ar .sub .i64) [.lit (.int (0)), .v 0]]]))
  (.ret (.done [.app (.wrap .u64) [.v 0]])))
def s175 : Sx.Spec := .auto c175 [] t175 (fun _ => True)
theorem t175_eq : ((fnC (PV.fast Tryz.prog) G (([] : List Sx.Spec).map (·.con)) [] 300 c175 20).prune []).toTr = t175 := by kernel_rfl
theorem s175_ok : s175.Ok Tryz.prog G := auto_ok (by simp) 300 20 t175_eq (by
  intro ds _; simp [t175, Tr.safe, preOf])

/-- compositor/real.limit -/
def c27 : Con := { f := 27, ps := [.agg [.int .i64, .int .i64], .at (.int .i64), .at (.int .i64)], rs := [.agg [.int .i64, .int .i64]] }
def t27 : Tr Leaf :=
 (.ret (.done [.app .mn [.app .mx [.v 0, .v 2], .v 3], .app .mx [.app .mn [.v 1, .v 3], .v 2]]))
def s27 : Sx.Spec := .auto c27 [] t27 (fun _ => True)
theorem t27_eq : ((fnC (PV.fast Tryz.prog) G (([] : List Sx.Spec).map (·.con)) [] 300 c27 20).prune []).toTr = t27 := by kernel_rfl
theorem s27_ok : s27.Ok Tryz.prog G := auto_ok (by simp) 300 20 t27_eq (by
  intro ds _; simp [t27, Tr.safe, preOf])

/-- compositor/real.known -/
def c25 : Con := { f := 25, ps := [.at (.int .i64)], rs := [.at (.bool)] }
def t25 : Tr Leaf :=
 (.ask (.app (.cm .ge) [.v 0, .lit (.int (1))])
  (.ask (.app (.cm .le) [.v 0, .lit (.int (12))])
   (.ask (.app (.cm .ne) [.v 0, .lit (.int (7))])
    (.ret (.done [.app (.cm .ne) [.v 0, .lit (.int (8))]]))
    (.ret (.done [.lit (.bool false)])))
   (.ret (.done [.lit (.bool false)])))
  (.ret (.done [.lit (.bool false)])))
def s25 : Sx.Spec := .auto c25 [] t25 (fun _ => True)
theorem t25_eq : ((fnC (PV.fast Tryz.prog) G (([] : List Sx.Spec).map (·.con)) [] 300 c25 20).prune []).toTr = t25 := by kernel_rfl
theorem s25_ok : s25.Ok Tryz.prog G := auto_ok (by simp) 300 20 t25_eq (by
  intro ds _; simp [t25, Tr.safe, preOf])

/-- compositor/compositorlaw29.point -/
def c10 : Con := { f := 10, ps := [.at (.int .i64), .at (.int .i64)], rs := [.agg [.int .i64, .int .i64]] }
def t10 : Tr Leaf :=
 (.need (.app (.cm .ne) [.v 1, .lit (.int (0))])
 (.ret (.done [.app (.ar .mul .i64) [.v 0, .app (.ar .quo .i64) [.lit (.int (1099511627776)), .v 1]], .app (.ar .mul .i64) [.v 0, .app (.ar .quo .i64) [.lit (.int (1099511627776)), .v 1]]])))
def s10 : Sx.Spec := .auto c10 [] t10 (fun ds => (ds.getD 1 default).toInt ≠ 0)
theorem t10_eq : ((fnC (PV.fast Tryz.prog) G (([] : List Sx.Spec).map (·.con)) [] 300 c10 20).prune []).toTr = t10 := by kernel_rfl
theorem s10_ok : s10.Ok Tryz.prog G := auto_ok (by simp) 300 20 t10_eq (by
  intro ds h
  simp [t10, Tr.safe, preOf, T.eval, T.evals, pe_ar, pe_wrap, pe_mn, pe_mx, pe_cm, pe_not, pe_beq, pe_ite, pe_len, pe_slen, pe_sat, pe_call, fnOf, cm_eq, cm_ne, cm_lt, cm_le, cm_gt, cm_ge, ar_add, ar_sub, ar_mul, ar_quo, ar_rem, ar_shl, ar_shr, wrap_u64, wrap_i64, wrap_u8]
  simpa using h)

/-- compositor/real.absolute -/
def c71 : Con := { f := 71, ps := [.agg [.int .i64, .int .i64]], rs := [.agg [.int .i64, .int .i64]] }
def t71 : Tr Leaf :=
 (.ask (.app (.cm .ge) [.v 0, .lit (.int (0))])
  (.ret (.done [.v 0, .v 1]))
  (.ask (.app (.cm .le) [.v 1, .lit (.int (0))])
   (.ret (.done [.app (.ar .sub .i64) [.lit (.int (0)), .v 1], .app (.ar .sub .i64) [.lit (.int (0)), .v 0]]))
   (.ret (.done [.lit (.int (0)), .app .mx [.app (.ar .sub .i64) [.lit (.int (0)), .v 0], .v 1]]))))
def s71 : Sx.Spec := .auto c71 [] t71 (fun _ => True)
theorem t71_eq : ((fnC (PV.fast Tryz.prog) G (([] : List Sx.Spec).map (·.con)) [] 300 c71 20).prune []).toTr = t71 := by kernel_rfl
theorem s71_ok : s71.Ok Tryz.prog G := auto_ok (by simp) 300 20 t71_eq (by
  intro ds _; simp [t71, Tr.safe, preOf])

/-- math/bits.Mul64 -/
def c166 : Con := { f := 166, ps := [.at (.int .u64), .at (.int .u64)], rs := [.at (.int .u64), .at (.int .u64)] }
def t166 : Tr Leaf :=
 (.ret (.done [.app (.ar .add .u64) [.app (.ar .add .u64) [.app (.ar .mul .u64) [.app (.ar .shr .u64) [.v 0, .lit (.int (32))], .app (.ar .shr .u64) [.v 1, .lit (.int (32))]], .app (.ar .shr .u64) [.app (.ar .add .u64) [.app (.ar .mul .u64) [.app (.ar .shr .u64) [.v 0, .lit (.int (32))], .app (.ar .and .u64) [.v 1, .lit (.int (4294967295))]], .app (.ar .shr .u64) [.app (.ar .mul .u64) [.app (.ar .and .u64) [.v 0, .lit (.int (4294967295))], .app (.ar .and .u64) [.v 1, .lit (.int (4294967295))]], .lit (.int (32))]], .lit (.int (32))]], .app (.ar .shr .u64) [.app (.ar .add .u64) [.app (.ar .and .u64) [.app (.ar .add .u64) [.app (.ar .mul .u64) [.app (.ar .shr .u64) [.v 0, .lit (.int (32))], .app (.ar .and .u64) [.v 1, .lit (.int (4294967295))]], .app (.ar .shr .u64) [.app (.ar .mul .u64) [.app (.ar .and .u64) [.v 0, .lit (.int (4294967295))], .app (.ar .and .u64) [.v 1, .lit (.int (4294967295))]], .lit (.int (32))]], .lit (.int (4294967295))], .app (.ar .mul .u64) [.app (.ar .and .u64) [.v 0, .lit (.int (4294967295))], .app (.ar .shr .u64) [.v 1, .lit (.int (32))]]], .lit (.int (32))]], .app (.ar .mul .u64) [.v 0, .v 1]]))
def s166 : Sx.Spec := .auto c166 [] t166 (fun _ => True)
theorem t166_eq : ((fnC (PV.fast Tryz.prog) G (([] : List Sx.Spec).map (·.con)) [] 300 c166 20).prune []).toTr = t166 := by kernel_rfl
theorem s166_ok : s166.Ok Tryz.prog G := auto_ok (by simp) 300 20 t166_eq (by
  intro ds _; simp [t166, Tr.safe, preOf])

/-- compositor/wide.Mul -/
def c172 : Con := { f := 172, ps := [.at (.int .u64), .at (.int .u64)], rs := [.agg [.int .u64, .int .u64]] }
def t172 : Tr Leaf :=
 (.pre 0 [.v 0, .v 1]
 (.ret (.done [.app (.call 0 0) [.v 0, .v 1], .app (.call 0 1) [.v 0, .v 1]])))
def s172 : Sx.Spec := .auto c172 [s166] t172 (fun _ => True)
theorem t172_eq : ((fnC (PV.fast Tryz.prog) G (([s166] : List Sx.Spec).map (·.con)) [] 300 c172 20).prune []).toTr = t172 := by kernel_rfl
theorem s172_ok : s172.Ok Tryz.prog G := auto_ok (by simp only [List.mem_cons, List.not_mem_nil, or_false, forall_eq_or_imp, forall_eq]; exact s166_ok) 300 20 t172_eq (by
  intro ds _
  simp [t172, Tr.safe, preOf, s166, Sx.Spec.auto])

/-- cmp.Compare[uint64] -/
def c209 : Con := { f := 209, ps := [.at (.int .u64), .at (.int .u64)], rs := [.at (.int .i64)] }
def t209 : Tr Leaf :=
 (.ask (.app (.cm .ne) [.v 0, .v 0])
  (.ask (.app (.cm .ne) [.v 1, .v 1])
   (.ret (.done [.lit (.int (0))]))
   (.ret (.done [.lit (.int (-1))])))
  (.ask (.app (.cm .ne) [.v 1, .v 1])
   (.ret (.done [.lit (.int (1))]))
   (.ask (.app (.cm .lt) [.v 0, .v 1])
    (.ret (.done [.lit (.int (-1))]))
    (.ask (.app (.cm .gt) [.v 0, .v 1])
     (.ret (.done [.lit (.int (1))]))
     (.ret (.done [.lit (.int (0))]))))))
def s209 : Sx.Spec := .auto c209 [] t209 (fun _ => True)
theorem t209_eq : ((fnC (PV.fast Tryz.prog) G (([] : List Sx.Spec).map (·.con)) [] 300 c209 20).prune []).toTr = t209 := by kernel_rfl
theorem s209_ok : s209.Ok Tryz.prog G := auto_ok (by simp) 300 20 t209_eq (by
  intro ds _; simp [t209, Tr.safe, preOf])

/-- compositor/wide.Compare -/
def c174 : Con := { f := 174, ps := [.agg [.int .u64, .int .u64], .agg [.int .u64, .int .u64]], rs := [.at (.int .i64)] }
def t174 : Tr Leaf :=
 (.pre 0 [.v 0, .v 2]
 (.pre 0 [.v 1, .v 3]
 (.ask (.app (.cm .ne) [.app (.call 0 0) [.v 0, .v 2], .lit (.int (0))])
  (.ret (.done [.app (.call 0 0) [.v 0, .v 2]]))
  (.ask (.app (.cm .ne) [.app (.call 0 0) [.v 1, .v 3], .lit (.int (0))])
   (.ret (.done [.app (.call 0 0) [.v 1, .v 3]]))
   (.ret (.done [.lit (.int (0))]))))))
def s174 : Sx.Spec := .auto c174 [s209] t174 (fun _ => True)
theorem t174_eq : ((fnC (PV.fast Tryz.prog) G (([s209] : List Sx.Spec).map (·.con)) [] 300 c174 20).prune []).toTr = t174 := by kernel_rfl
theorem s174_ok : s174.Ok Tryz.prog G := auto_ok (by simp only [List.mem_cons, List.not_mem_nil, or_false, forall_eq_or_imp, forall_eq]; exact s209_ok) 300 20 t174_eq (by
  intro ds _
  simp [t174, Tr.safe, preOf, s209, Sx.Spec.auto])

/-- math/bits.Len64 -/
def c223 : Con := { f := 223, ps := [.at (.int .u64)], rs := [.at (.int .i64)] }
def t223 : Tr Leaf :=
 (.ask (.app (.cm .ge) [.v 0, .lit (.int (4294967296))])
  (.ask (.app (.cm .ge) [.app (.ar .shr .u64) [.v 0, .lit (.int (32))], .lit (.int (65536))])
   (.ask (.app (.cm .ge) [.app (.ar .shr .u64) [.app (.ar .shr .u64) [.v 0, .lit (.int (32))], .lit (.int (16))], .lit (.int (256))])
    (.need (.app (.cm .ge) [.app (.wrap .u8) [.app (.ar .shr .u64) [.app (.ar .shr .u64) [.app (.ar .shr .u64) [.v 0, .lit (.int (32))], .lit (.int (16))], .lit (.int (8))]], .lit (.int (0))])
    (.need (.app (.cm .lt) [.app (.wrap .u8) [.app (.ar .shr .u64) [.app (.ar .shr .u64) [.app (.ar .shr .u64) [.v 0, .lit (.int (32))], .lit (.int (16))], .lit (.int (8))]], .lit (.int (256))])
    (.ret (.done [.app (.ar .add .i64) [.lit (.int (56)), .app (.wrap .i64) [.app .sat [.lit (.str lenTab), .app (.wrap .u8) [.app (.ar .shr .u64) [.app (.ar .shr .u64) [.app (.ar .shr .u64) [.v 0, .lit (.int (32))], .lit (.int (16))], .lit (.int (8))]]]]]]))))
    (.need (.app (.cm .ge) [.app (.wrap .u8) [.app (.ar .shr .u64) [.app (.ar .shr .u64) [.v 0, .lit (.int (32))], .lit (.int (16))]], .lit (.int (0))])
    (.need (.app (.cm .lt) [.app (.wrap .u8) [.app (.ar .shr .u64) [.app (.ar .shr .u64) [.v 0, .lit (.int (32))], .lit (.int (16))]], .lit (.int (256))])
    (.ret (.done [.app (.ar .add .i64) [.lit (.int (48)), .app (.wrap .i64) [.app .sat [.lit (.str lenTab), .app (.wrap .u8) [.app (.ar .shr .u64) [.app (.ar .shr .u64) [.v 0, .lit (.int (32))], .lit (.int (16))]]]]]])))))
   (.ask (.app (.cm .ge) [.app (.ar .shr .u64) [.v 0, .lit (.int (32))], .lit (.int (256))])
    (.need (.app (.cm .ge) [.app (.wrap .u8) [.app (.ar .shr .u64) [.app (.ar .shr .u64) [.v 0, .lit (.int (32))], .lit (.int (8))]], .lit (.int (0))])
    (.need (.app (.cm .lt) [.app (.wrap .u8) [.app (.ar .shr .u64) [.app (.ar .shr .u64) [.v 0, .lit (.int (32))], .lit (.int (8))]], .lit (.int (256))])
    (.ret (.done [.app (.ar .add .i64) [.lit (.int (40)), .app (.wrap .i64) [.app .sat [.lit (.str lenTab), .app (.wrap .u8) [.app (.ar .shr .u64) [.app (.ar .shr .u64) [.v 0, .lit (.int (32))], .lit (.int (8))]]]]]]))))
    (.need (.app (.cm .ge) [.app (.wrap .u8) [.app (.ar .shr .u64) [.v 0, .lit (.int (32))]], .lit (.int (0))])
    (.need (.app (.cm .lt) [.app (.wrap .u8) [.app (.ar .shr .u64) [.v 0, .lit (.int (32))]], .lit (.int (256))])
    (.ret (.done [.app (.ar .add .i64) [.lit (.int (32)), .app (.wrap .i64) [.app .sat [.lit (.str lenTab), .app (.wrap .u8) [.app (.ar .shr .u64) [.v 0, .lit (.int (32))]]]]]]))))))
  (.ask (.app (.cm .ge) [.v 0, .lit (.int (65536))])
   (.ask (.app (.cm .ge) [.app (.ar .shr .u64) [.v 0, .lit (.int (16))], .lit (.int (256))])
    (.need (.app (.cm .ge) [.app (.wrap .u8) [.app (.ar .shr .u64) [.app (.ar .shr .u64) [.v 0, .lit (.int (16))], .lit (.int (8))]], .lit (.int (0))])
    (.need (.app (.cm .lt) [.app (.wrap .u8) [.app (.ar .shr .u64) [.app (.ar .shr .u64) [.v 0, .lit (.int (16))], .lit (.int (8))]], .lit (.int (256))])
    (.ret (.done [.app (.ar .add .i64) [.lit (.int (24)), .app (.wrap .i64) [.app .sat [.lit (.str lenTab), .app (.wrap .u8) [.app (.ar .shr .u64) [.app (.ar .shr .u64) [.v 0, .lit (.int (16))], .lit (.int (8))]]]]]]))))
    (.need (.app (.cm .ge) [.app (.wrap .u8) [.app (.ar .shr .u64) [.v 0, .lit (.int (16))]], .lit (.int (0))])
    (.need (.app (.cm .lt) [.app (.wrap .u8) [.app (.ar .shr .u64) [.v 0, .lit (.int (16))]], .lit (.int (256))])
    (.ret (.done [.app (.ar .add .i64) [.lit (.int (16)), .app (.wrap .i64) [.app .sat [.lit (.str lenTab), .app (.wrap .u8) [.app (.ar .shr .u64) [.v 0, .lit (.int (16))]]]]]])))))
   (.ask (.app (.cm .ge) [.v 0, .lit (.int (256))])
    (.need (.app (.cm .ge) [.app (.wrap .u8) [.app (.ar .shr .u64) [.v 0, .lit (.int (8))]], .lit (.int (0))])
    (.need (.app (.cm .lt) [.app (.wrap .u8) [.app (.ar .shr .u64) [.v 0, .lit (.int (8))]], .lit (.int (256))])
    (.ret (.done [.app (.ar .add .i64) [.lit (.int (8)), .app (.wrap .i64) [.app .sat [.lit (.str lenTab), .app (.wrap .u8) [.app (.ar .shr .u64) [.v 0, .lit (.int (8))]]]]]]))))
    (.need (.app (.cm .ge) [.app (.wrap .u8) [.v 0], .lit (.int (0))])
    (.need (.app (.cm .lt) [.app (.wrap .u8) [.v 0], .lit (.int (256))])
    (.ret (.done [.app (.ar .add .i64) [.lit (.int (0)), .app (.wrap .i64) [.app .sat [.lit (.str lenTab), .app (.wrap .u8) [.v 0]]]]])))))))
def s223 : Sx.Spec := .auto c223 [] t223 (fun _ => True)
theorem t223_eq : ((fnC (PV.fast Tryz.prog) G (([] : List Sx.Spec).map (·.con)) [] 300 c223 20).prune []).toTr = t223 := by kernel_rfl
theorem s223_ok : s223.Ok Tryz.prog G := auto_ok (by simp) 300 20 t223_eq (by
  have hl : lenTab.data.toList.length = 256 := by decide
  intro ds _
  simp only [t223, Tr.safe, preOf, T.eval, T.evals, pe_ar, pe_wrap, pe_mn, pe_mx, pe_cm, pe_not, pe_beq, pe_ite, pe_len, pe_slen, pe_sat, pe_call, fnOf, cm_eq, cm_ne, cm_lt, cm_le, cm_gt, cm_ge, ar_add, ar_sub, ar_mul, ar_quo, ar_rem, ar_shl, ar_shr, wrap_u64, wrap_i64, wrap_u8, D.toStr_str, hl]
  simp
  omega)

/-- math/bits.LeadingZeros64 -/
def c210 : Con := { f := 210, ps := [.at (.int .u64)], rs := [.at (.int .i64)] }
def t210 : Tr Leaf :=
 (.pre 0 [.v 0]
 (.ret (.done [.app (.ar .sub .i64) [.lit (.int (64)), .app (.call 0 0) [.v 0]]])))
def s210 : Sx.Spec := .auto c210 [s223] t210 (fun _ => True)
theorem t210_eq : ((fnC (PV.fast Tryz.prog) G (([s223] : List Sx.Spec).map (·.con)) [] 300 c210 20).prune []).toTr = t210 := by kernel_rfl
theorem s210_ok : s210.Ok Tryz.prog G := auto_ok (by simp only [List.mem_cons, List.not_mem_nil, or_false, forall_eq_or_imp, forall_eq]; exact s223_ok) 300 20 t210_eq (by
  intro ds _
  simp [t210, Tr.safe, preOf, s223, Sx.Spec.auto])

end Go.Proofs.YteaiikmijhikpaaGreatDoor
end
section
namespace Go.Sx.L64
open Go Go.Sx

theorem mul_lt {a b c : Int} (h : a < b) (hc : 0 < c) : a * c < b * c := Int.mul_lt_mul_of_pos_right h hc
theorem mul_le {a b c : Int} (h : a ≤ b) (hc : 0 ≤ c) : a * c ≤ b * c := Int.mul_le_mul_of_nonneg_right h hc

/-- The state of a round: the divisor Y in two halves, the number U * 2^32 + u, a quotient q that is not too small, and what is left of it. -/
structure Rd (Y y1 y0 U u q r : Int) : Prop where
  hY0 : 9223372036854775808 ≤ Y
  hY1 : Y < 18446744073709551616
  hy1 : y1 = Y / 4294967296
  hy0 : y0 = Y % 4294967296
  hU0 : 0 ≤ U
  hU1 : U < Y
  hu0 : 0 ≤ u
  hu1 : u < 4294967296
  hqr : q * y1 + r = U
  hr0 : 0 ≤ r
  hr1 : r < 4294967296
  hq0 : 0 ≤ q
  big : U * 4294967296 + u < (q + 1) * Y

theorem Rd.split {Y y1 y0 U u q r : Int} (h : Rd Y y1 y0 U u q r) : q * Y = q * y1 * 4294967296 + q * y0 := by
  have e : Y = y1 * 4294967296 + y0 := by have := h.hy1; have := h.hy0; omega
  calc q * Y = q * (y1 * 4294967296 + y0) := by rw [← e]
    _ = q * y1 * 4294967296 + q * y0 := by rw [Int.mul_add, Int.mul_assoc]

theorem Rd.y1b {Y y1 y0 U u q r : Int} (h : Rd Y y1 y0 U u q r) : 2147483648 ≤ y1 ∧ y1 < 4294967296 ∧ 0 ≤ y0 ∧ y0 < 4294967296 := by
  have := h.hY0; have := h.hY1; have := h.hy1; have := h.hy0; omega
theorem Rd.q1 {Y y1 y0 U u q r : Int} (h : Rd Y y1 y0 U u q r) : q < 8589934592 := by
  obtain ⟨b1, b2, b3, b4⟩ := h.y1b
  have := h.hqr; have := h.hr0; have := h.hU1; have := h.hY1
  rcases Int.lt_or_le q 8589934592 with h' | h'
  · exact h'
  · have h2 := mul_le h' (show 0 ≤ y1 by omega)
    omega

/-- A quotient of 2^32 or more is too great. -/
theorem Rd.over {Y y1 y0 U u q r : Int} (h : Rd Y y1 y0 U u q r) (hq : 4294967296 ≤ q) : U * 4294967296 + u < q * Y := by
  have h2 := mul_le hq (show 0 ≤ Y by have := h.hY0; omega)
  have := h.hU1; have := h.hu1
  omega
/-- The test of a round. -/
theorem Rd.test {Y y1 y0 U u q r : Int} (h : Rd Y y1 y0 U u q r) (hq : q < 4294967296) :
    q * y0 % 18446744073709551616 = q * y0 ∧ (4294967296 * r % 18446744073709551616 + u) % 18446744073709551616 = 4294967296 * r + u ∧
    (4294967296 * r + u < q * y0 ↔ U * 4294967296 + u < q * Y) := by
  obtain ⟨b1, b2, b3, b4⟩ := h.y1b
  have e := h.split
  have := h.hqr; have := h.hr0; have := h.hr1; have := h.hu0; have := h.hu1; have := h.hq0
  have h0 : 0 ≤ q * y0 := Int.mul_nonneg h.hq0 b3
  have h1 : q * y0 ≤ 4294967296 * y0 := mul_le (by omega) b3
  refine ⟨by omega, by omega, by omega⟩
/-- The next round. -/
theorem Rd.next {Y y1 y0 U u q r : Int} (h : Rd Y y1 y0 U u q r) (hc : U * 4294967296 + u < q * Y) :
    1 ≤ q ∧ (q - 1) % 18446744073709551616 = q - 1 ∧ (r + y1) % 18446744073709551616 = r + y1 ∧
    (r + y1 < 4294967296 → Rd Y y1 y0 U u (q - 1) (r + y1)) ∧
    (4294967296 ≤ r + y1 → q - 1 < 4294967296 ∧ (q - 1) * Y ≤ U * 4294967296 + u) := by
  obtain ⟨b1, b2, b3, b4⟩ := h.y1b
  have hq1 := h.q1
  have := h.hU0; have := h.hu0; have := h.hr0; have := h.hr1; have := h.hY0
  have hq : 1 ≤ q := by
    rcases Int.lt_or_le q 1 with h' | h'
    · have : q = 0 := by have := h.hq0; omega
      subst this
      omega
    · exact h'
  have e : (q - 1) * y1 = q * y1 - y1 := by rw [Int.sub_mul, Int.one_mul]
  have hqr := h.hqr
  refine ⟨hq, by omega, by omega, fun hr => ?_, fun hr => ?_⟩
  · exact { h with hqr := by omega, hr0 := by omega, hr1 := hr, hq0 := by omega, big := by rw [show q - 1 + 1 = q from by omega]; exact hc }
  · have hU := h.hU1
    have hy1 := h.hy1
    have hlt : q - 1 < 4294967296 := by
      rcases Int.lt_or_le (q - 1) 4294967296 with h' | h'
      · exact h'
      · have h2 := mul_le h' (show 0 ≤ y1 by omega)
        omega
    refine ⟨hlt, ?_⟩
    have e2 : (q - 1) * Y = (q - 1) * y1 * 4294967296 + (q - 1) * y0 := by
      have e : Y = y1 * 4294967296 + y0 := by have := h.hy1; have := h.hy0; omega
      calc (q - 1) * Y = (q - 1) * (y1 * 4294967296 + y0) := by rw [← e]
        _ = _ := by rw [Int.mul_add, Int.mul_assoc]
    have h3 : (q - 1) * y0 ≤ 4294967296 * y0 := mul_le (by omega) b3
    omega
/-- A quotient that is not too great, either. -/
theorem Rd.done {Y U u q : Int} (hY : 0 < Y) (h1 : q * Y ≤ U * 4294967296 + u) (h2 : U * 4294967296 + u < (q + 1) * Y) :
    q = (U * 4294967296 + u) / Y ∧ (U * 4294967296 + u) % Y = U * 4294967296 + u - q * Y := by
  have e : (q + 1) * Y = q * Y + Y := by rw [Int.add_mul, Int.one_mul]
  have hq : (U * 4294967296 + u) / Y = q := by
    rw [Int.ediv_eq_iff_of_pos hY] 
    omega
  refine ⟨hq.symm, ?_⟩
  rw [Int.emod_def, hq, Int.mul_comm Y q]
end Go.Sx.L64
namespace Go.Sx.L64
open Go Go.Sx
/-- The first quotient, tried out. -/
theorem Rd.start {Y y1 y0 U u : Int} (h0 : 9223372036854775808 ≤ Y) (h1 : Y < 18446744073709551616) (e1 : y1 = Y / 4294967296) (e0 : y0 = Y % 4294967296) (hU0 : 0 ≤ U) (hU1 : U < Y) (hu0 : 0 ≤ u) (hu1 : u < 4294967296) :
    Rd Y y1 y0 U u (U / y1) (U % y1) := by
  have b : 2147483648 ≤ y1 ∧ y1 < 4294967296 ∧ 0 ≤ y0 ∧ y0 < 4294967296 := by omega
  have hm := Int.emod_lt_of_pos U (show 0 < y1 by omega)
  have hm0 := Int.emod_nonneg U (show y1 ≠ 0 by omega)
  have hd := Int.mul_ediv_add_emod U y1
  have hq0 : 0 ≤ U / y1 := Int.ediv_nonneg hU0 (by omega)
  have e : (U / y1) * y1 = y1 * (U / y1) := Int.mul_comm _ _
  refine ⟨h0, h1, e1, e0, hU0, hU1, hu0, hu1, by omega, hm0, by omega, hq0, ?_⟩
  have eY : Y = y1 * 4294967296 + y0 := by omega
  have e2 : (U / y1 + 1) * Y = (U / y1) * y1 * 4294967296 + y1 * 4294967296 + (U / y1 + 1) * y0 := by
    calc (U / y1 + 1) * Y = (U / y1 + 1) * (y1 * 4294967296 + y0) := by rw [← eY]
      _ = (U / y1 + 1) * (y1 * 4294967296) + (U / y1 + 1) * y0 := Int.mul_add _ _ _
      _ = (U / y1) * (y1 * 4294967296) + y1 * 4294967296 + (U / y1 + 1) * y0 := by rw [Int.add_mul (U / y1) 1 (y1 * 4294967296), Int.one_mul]
      _ = _ := by rw [Int.mul_assoc]
  have h3 : 0 ≤ (U / y1 + 1) * y0 := Int.mul_nonneg (by omega) (by omega)
  omega
/-- The two quotients together, and the shift undone. -/
theorem both {N y p Y U u1 u0 : Int} (hp : 0 < p) (hy : 0 < y) (hY : Y = y * p) (hN : N * p = (U * 4294967296 + u1) * 4294967296 + u0) (hu0 : 0 ≤ u0) (hu : u0 < 4294967296) :
    (U * 4294967296 + u1) / Y * 4294967296 + ((U * 4294967296 + u1) % Y * 4294967296 + u0) / Y = N / y ∧
    ((U * 4294967296 + u1) % Y * 4294967296 + u0) % Y / p = N % y := by
  have hY0 : 0 < Y := by rw [hY]; exact Int.mul_pos hy hp
  generalize hA : U * 4294967296 + u1 = A at hN ⊢
  have d1 := Int.mul_ediv_add_emod A Y
  generalize A / Y = q1 at d1 ⊢
  generalize A % Y = r1 at d1 ⊢
  have d2 := Int.mul_ediv_add_emod (r1 * 4294967296 + u0) Y
  have b2 := Int.emod_nonneg (r1 * 4294967296 + u0) (show Y ≠ 0 by omega)
  have b3 := Int.emod_lt_of_pos (r1 * 4294967296 + u0) hY0
  generalize (r1 * 4294967296 + u0) / Y = q2 at d2 ⊢
  generalize (r1 * 4294967296 + u0) % Y = r2 at d2 b2 b3 ⊢
  -- N * p = (q1 * 2^32 + q2) * Y + r2
  have e : N * p = (q1 * 4294967296 + q2) * (y * p) + r2 := by
    rw [hN, ← d1, ← hY, Int.add_mul]
    have e1 : Y * q1 * 4294967296 = q1 * 4294967296 * Y := by rw [Int.mul_comm Y q1, Int.mul_right_comm]
    have e2 : Y * q2 = q2 * Y := Int.mul_comm _ _
    rw [Int.add_mul]
    omega
  -- so r2 is a multiple of p
  have e3 : r2 = (N - (q1 * 4294967296 + q2) * y) * p := by
    rw [Int.sub_mul, e, Int.mul_assoc]; omega
  generalize hk : N - (q1 * 4294967296 + q2) * y = k at e3
  have hk0 : 0 ≤ k := by
    rcases Int.lt_or_le k 0 with h | h
    · have := mul_lt h hp; omega
    · exact h
  have hk1 : k < y := by
    rcases Int.lt_or_le k y with h | h
    · exact h
    · have := mul_le h (show 0 ≤ p by omega); omega
  have hNy : N = (q1 * 4294967296 + q2) * y + k := by omega
  have hq : N / y = q1 * 4294967296 + q2 := by
    rw [Int.ediv_eq_iff_of_pos hy, hNy]
    generalize (q1 * 4294967296 + q2) * y = z
    omega
  refine ⟨hq.symm, ?_⟩
  rw [e3, Int.mul_ediv_cancel _ (by omega), Int.emod_def, hq, Int.mul_comm y]
  omega
end Go.Sx.L64
namespace Go.Sx.L64
open Go Go.Sx
theorem rem_eq {Y U u q : Int} (hY : 0 < Y) (hY1 : Y < 18446744073709551616) (h1 : q * Y ≤ U * 4294967296 + u) (h2 : U * 4294967296 + u < (q + 1) * Y) :
    ((U * 4294967296 % 18446744073709551616 + u) % 18446744073709551616 - q * Y % 18446744073709551616) % 18446744073709551616 = (U * 4294967296 + u) % Y := by
  obtain ⟨_, e⟩ := Rd.done hY h1 h2
  rw [e]
  have e2 : (q + 1) * Y = q * Y + Y := by rw [Int.add_mul, Int.one_mul]
  generalize q * Y = z at *
  omega
theorem fin2 {Y U u q q1 s : Int} (hY : 0 < Y) (hY1 : Y < 18446744073709551616) (h1 : q * Y ≤ U * 4294967296 + u) (h2 : U * 4294967296 + u < (q + 1) * Y) (hq0 : 0 ≤ q) (hq : q < 4294967296)
    (hp0 : 0 ≤ q1) (hp : q1 < 4294967296) (hs : 0 ≤ s ∧ s ≤ 63) :
    (q1 * 4294967296 % 18446744073709551616 + q) % 18446744073709551616 = q1 * 4294967296 + (U * 4294967296 + u) / Y ∧
    (((U * 4294967296 % 18446744073709551616 + u) % 18446744073709551616 - q * Y % 18446744073709551616) % 18446744073709551616).fdiv (2 ^ min s.toNat IntKind.u64.bits) =
      (U * 4294967296 + u) % Y / 2 ^ s.toNat := by
  obtain ⟨e, _⟩ := Rd.done hY h1 h2
  constructor
  · rw [← e]; omega
  · rw [rem_eq hY hY1 h1 h2, show min s.toNat IntKind.u64.bits = s.toNat from Nat.min_eq_left (by show s.toNat ≤ 64; omega)]
    exact Int.fdiv_eq_ediv_of_nonneg _ (Int.le_of_lt (Int.pow_pos (by omega)))
theorem fin1 {y1 R : Int} (h1 : 2147483648 ≤ y1) (h2 : y1 < 4294967296) (hR0 : 0 ≤ R) (hR : R < 18446744073709551616) :
    R.tdiv y1 % 18446744073709551616 = R / y1 ∧ (R - R / y1 * y1 % 18446744073709551616) % 18446744073709551616 = R % y1 := by
  have e : R.tdiv y1 = R / y1 := Int.tdiv_eq_ediv_of_nonneg hR0
  have d := Int.mul_ediv_add_emod R y1
  have b0 := Int.emod_nonneg R (show y1 ≠ 0 by omega)
  have b1 := Int.emod_lt_of_pos R (show 0 < y1 by omega)
  have q0 : 0 ≤ R / y1 := Int.ediv_nonneg hR0 (by omega)
  have q1 : R / y1 ≤ R := Int.ediv_le_self _ hR0
  rw [e]
  have c : R / y1 * y1 = y1 * (R / y1) := Int.mul_comm _ _
  rw [c]
  generalize y1 * (R / y1) = z at *
  omega
end Go.Sx.L64
end
section
namespace Go.Proofs.YteaiikmijhikpaaGreatDoor
open Go Go.Sx
set_option maxRecDepth 100000

theorem tab_law : ∀ x : Nat, x < 256 → 0 < x → (lenTab.data.toList.getD x 0).toNat ≤ 8 ∧ 128 ≤ x * 2 ^ (8 - (lenTab.data.toList.getD x 0).toNat) ∧
    x * 2 ^ (8 - (lenTab.data.toList.getD x 0).toNat) + 2 ^ (8 - (lenTab.data.toList.getD x 0).toNat) ≤ 256 := by decide
theorem nrm {y x r A B k : Int} (hy : y = x * A + r) (hr0 : 0 ≤ r) (hr : r < A) (hB : 0 < B) (hAB : A * B = 72057594037927936) (hk : 0 < k) (h1 : 128 ≤ x * k) (h2 : x * k + k ≤ 256) :
    9223372036854775808 ≤ y * (k * B) ∧ y * (k * B) < 18446744073709551616 := by
  have e : y * (k * B) = 72057594037927936 * (x * k) + (r * B) * k := by
    rw [hy, Int.add_mul, ← hAB]
    congr 1
    · rw [Int.mul_comm k B, Int.mul_assoc x A, ← Int.mul_assoc A B k, Int.mul_left_comm x]
    · rw [Int.mul_comm k B, Int.mul_assoc]
  have h3 : 0 ≤ r * B := Int.mul_nonneg hr0 (by omega)
  have h4 : r * B < 72057594037927936 := by rw [← hAB]; exact L64.mul_lt hr hB
  have h5 : 0 ≤ (r * B) * k := Int.mul_nonneg h3 (by omega)
  have h6 : (r * B) * k < 72057594037927936 * k := L64.mul_lt h4 hk
  omega
theorem len_case {y x r : Int} {n : Nat} {v : Int} (hx : 0 < x) (hx2 : x < 256) (hn : n ≤ 56) (hy : y = x * 2 ^ n + r) (hr0 : 0 ≤ r) (hr : r < 2 ^ n)
    (hv : v = n + ((lenTab.data.toList.getD x.toNat 0).toNat : Int)) : ∃ L : Nat, 1 ≤ L ∧ L ≤ 64 ∧ v = L ∧ 9223372036854775808 ≤ y * 2 ^ (64 - L) ∧ y * 2 ^ (64 - L) < 18446744073709551616 := by
  obtain ⟨t1, t2, t3⟩ := tab_law x.toNat (by omega) (by omega)
  generalize (lenTab.data.toList.getD x.toNat 0).toNat = t at *
  have ht : 1 ≤ t := by
    rcases Nat.eq_zero_or_pos t with h | h
    · subst h
      simp only [Nat.sub_zero] at t3
      omega
    · exact h
  refine ⟨n + t, by omega, by omega, by omega, ?_⟩
  have e : (2 : Int) ^ (64 - (n + t)) = 2 ^ (8 - t) * 2 ^ (56 - n) := by rw [← Int.pow_add]; congr 1; omega
  rw [e]
  have hk : ((2 ^ (8 - t) : Nat) : Int) = (2 : Int) ^ (8 - t) := by simp
  have hxk : ((x.toNat * 2 ^ (8 - t) : Nat) : Int) = x * 2 ^ (8 - t) := by
    rw [Int.natCast_mul, hk, Int.toNat_of_nonneg (by omega)]
  refine nrm hy hr0 hr (Int.pow_pos (by omega)) ?_ (Int.pow_pos (by omega)) ?_ ?_
  · rw [← Int.pow_add, show n + (56 - n) = 56 from by omega]; rfl
  · rw [← hxk]; omega
  · rw [← hxk, ← hk]; omega
theorem s223_val (d : D) (h0 : 0 < d.toInt) (h1 : d.toInt < 18446744073709551616) :
    ∃ L : Nat, 1 ≤ L ∧ L ≤ 64 ∧ s223.fn [d] = [.int L] ∧ 9223372036854775808 ≤ d.toInt * 2 ^ (64 - L) ∧ d.toInt * 2 ^ (64 - L) < 18446744073709551616 := by
  have key : ∀ v : Int, s223.fn [d] = [.int v] → (∃ L : Nat, 1 ≤ L ∧ L ≤ 64 ∧ v = L ∧ 9223372036854775808 ≤ d.toInt * 2 ^ (64 - L) ∧ d.toInt * 2 ^ (64 - L) < 18446744073709551616) →
      ∃ L : Nat, 1 ≤ L ∧ L ≤ 64 ∧ s223.fn [d] = [.int L] ∧ 9223372036854775808 ≤ d.toInt * 2 ^ (64 - L) ∧ d.toInt * 2 ^ (64 - L) < 18446744073709551616 := by
    rintro v hv ⟨L, a, b, rfl, c⟩
    exact ⟨L, a, b, hv, c⟩
  have ev : s223.fn [d] = t223.run (fnOf []) [d] := rfl
  have tl : ∀ z : Nat, (lenTab.data.toList.getD z 0).toNat < 256 := fun z => (lenTab.data.toList.getD z 0).toNat_lt
  simp only [t223, Tr.run, T.eval, T.evals, pe_ar, pe_wrap, pe_mn, pe_mx, pe_cm, pe_not, pe_beq, pe_ite, pe_len, pe_slen, pe_sat, pe_call, fnOf, cm_eq, cm_ne, cm_lt, cm_le, cm_gt, cm_ge, ar_add, ar_sub, ar_mul, ar_quo, ar_rem, ar_shl, ar_shr, wrap_u64, wrap_i64, wrap_u8, D.toInt_int, D.toBool_bool, D.toStr_str, List.getD_cons_zero] at ev
  simp only [show ∀ x : Int, x.fdiv (2 ^ (min (32 : Int).toNat IntKind.u64.bits)) = x / 4294967296 from fun x => Int.fdiv_eq_ediv_of_nonneg _ (by decide),
    show ∀ x : Int, x.fdiv (2 ^ (min (16 : Int).toNat IntKind.u64.bits)) = x / 65536 from fun x => Int.fdiv_eq_ediv_of_nonneg _ (by decide),
    show ∀ x : Int, x.fdiv (2 ^ (min (8 : Int).toNat IntKind.u64.bits)) = x / 256 from fun x => Int.fdiv_eq_ediv_of_nonneg _ (by decide)] at ev
  generalize d.toInt = y at *
  rcases Int.lt_or_le y 4294967296 with c1 | c1
  · rcases Int.lt_or_le y 65536 with c2 | c2
    · rcases Int.lt_or_le y 256 with c3 | c3
      · simp only [decide_eq_false (show ¬ (4294967296 : Int) ≤ y by omega), decide_eq_false (show ¬ (65536 : Int) ≤ y by omega), decide_eq_false (show ¬ (256 : Int) ≤ y by omega)] at ev
        refine key _ ev (len_case (n := 0) (x := y) (r := 0) (by omega) (by omega) (by omega) (by omega) (by omega) (by omega) ?_)
        have := tl (y % 256).toNat
        rw [show y % 256 = y from by omega] at this ⊢
        omega
      · simp only [decide_eq_false (show ¬ (4294967296 : Int) ≤ y by omega), decide_eq_false (show ¬ (65536 : Int) ≤ y by omega), decide_eq_true (show (256 : Int) ≤ y by omega)] at ev
        refine key _ ev (len_case (n := 8) (x := y / 256) (r := y % 256) (by omega) (by omega) (by omega) (by omega) (by omega) (by omega) ?_)
        have := tl (y / 256 % 256).toNat
        rw [show y / 256 % 256 = y / 256 from by omega] at this ⊢
        omega
    · rcases Int.lt_or_le (y / 65536) 256 with c3 | c3
      · simp only [decide_eq_false (show ¬ (4294967296 : Int) ≤ y by omega), decide_eq_true (show (65536 : Int) ≤ y by omega), decide_eq_false (show ¬ (256 : Int) ≤ y / 65536 by omega)] at ev
        refine key _ ev (len_case (n := 16) (x := y / 65536) (r := y % 65536) (by omega) (by omega) (by omega) (by omega) (by omega) (by omega) ?_)
        have := tl (y / 65536 % 256).toNat
        rw [show y / 65536 % 256 = y / 65536 from by omega] at this ⊢
        omega
      · simp only [decide_eq_false (show ¬ (4294967296 : Int) ≤ y by omega), decide_eq_true (show (65536 : Int) ≤ y by omega), decide_eq_true (show (256 : Int) ≤ y / 65536 by omega)] at ev
        refine key _ ev (len_case (n := 24) (x := y / 65536 / 256) (r := y % 16777216) (by omega) (by omega) (by omega) (by omega) (by omega) (by omega) ?_)
        have := tl (y / 65536 / 256 % 256).toNat
        rw [show y / 65536 / 256 % 256 = y / 65536 / 256 from by omega] at this ⊢
        omega
  · rcases Int.lt_or_le (y / 4294967296) 65536 with c2 | c2
    · rcases Int.lt_or_le (y / 4294967296) 256 with c3 | c3
      · simp only [decide_eq_true (show (4294967296 : Int) ≤ y by omega), decide_eq_false (show ¬ (65536 : Int) ≤ y / 4294967296 by omega), decide_eq_false (show ¬ (256 : Int) ≤ y / 4294967296 by omega)] at ev
        refine key _ ev (len_case (n := 32) (x := y / 4294967296) (r := y % 4294967296) (by omega) (by omega) (by omega) (by omega) (by omega) (by omega) ?_)
        have := tl (y / 4294967296 % 256).toNat
        rw [show y / 4294967296 % 256 = y / 4294967296 from by omega] at this ⊢
        omega
      · simp only [decide_eq_true (show (4294967296 : Int) ≤ y by omega), decide_eq_false (show ¬ (65536 : Int) ≤ y / 4294967296 by omega), decide_eq_true (show (256 : Int) ≤ y / 4294967296 by omega)] at ev
        refine key _ ev (len_case (n := 40) (x := y / 4294967296 / 256) (r := y % 1099511627776) (by omega) (by omega) (by omega) (by omega) (by omega) (by omega) ?_)
        have := tl (y / 4294967296 / 256 % 256).toNat
        rw [show y / 4294967296 / 256 % 256 = y / 4294967296 / 256 from by omega] at this ⊢
        omega
    · rcases Int.lt_or_le (y / 4294967296 / 65536) 256 with c3 | c3
      · simp only [decide_eq_true (show (4294967296 : Int) ≤ y by omega), decide_eq_true (show (65536 : Int) ≤ y / 4294967296 by omega), decide_eq_false (show ¬ (256 : Int) ≤ y / 4294967296 / 65536 by omega)] at ev
        refine key _ ev (len_case (n := 48) (x := y / 4294967296 / 65536) (r := y % 281474976710656) (by omega) (by omega) (by omega) (by omega) (by omega) (by omega) ?_)
        have := tl (y / 4294967296 / 65536 % 256).toNat
        rw [show y / 4294967296 / 65536 % 256 = y / 4294967296 / 65536 from by omega] at this ⊢
        omega
      · simp only [decide_eq_true (show (4294967296 : Int) ≤ y by omega), decide_eq_true (show (65536 : Int) ≤ y / 4294967296 by omega), decide_eq_true (show (256 : Int) ≤ y / 4294967296 / 65536 by omega)] at ev
        refine key _ ev (len_case (n := 56) (x := y / 4294967296 / 65536 / 256) (r := y % 72057594037927936) (by omega) (by omega) (by omega) (by omega) (by omega) (by omega) ?_)
        have := tl (y / 4294967296 / 65536 / 256 % 256).toNat
        rw [show y / 4294967296 / 65536 / 256 % 256 = y / 4294967296 / 65536 / 256 from by omega] at this ⊢
        omega
theorem s210_val (d : D) (h0 : 0 < d.toInt) (h1 : d.toInt < 18446744073709551616) :
    ∃ s : Nat, s ≤ 63 ∧ s210.fn [d] = [.int s] ∧ 9223372036854775808 ≤ d.toInt * 2 ^ s ∧ d.toInt * 2 ^ s < 18446744073709551616 := by
  obtain ⟨L, a, b, c, e, f⟩ := s223_val d h0 h1
  refine ⟨64 - L, by omega, ?_, e, f⟩
  show t210.run (fnOf [s223]) [d] = _
  simp only [t210, Tr.run, T.eval, T.evals, pe_ar, pe_wrap, pe_mn, pe_mx, pe_cm, pe_not, pe_beq, pe_ite, pe_len, pe_slen, pe_sat, pe_call, fnOf, cm_eq, cm_ne, cm_lt, cm_le, cm_gt, cm_ge, ar_add, ar_sub, ar_mul, ar_quo, ar_rem, ar_shl, ar_shr, wrap_u64, wrap_i64, wrap_u8, List.getD_cons_zero, c, D.toInt_int]
  congr 2
  omega
end Go.Proofs.YteaiikmijhikpaaGreatDoor
end
section
namespace Go.Proofs.YteaiikmijhikpaaGreatDoor
open Go Go.Sx
set_option maxRecDepth 100000
/-- math/bits.Div64 -/
def c176 : Con := { f := 176, ps := [.at (.int .u64), .at (.int .u64), .at (.int .u64)], rs := [.at (.int .u64), .at (.int .u64)] }
def p176_17 : Tmpl := tmplOf 135 [(2, .int .u64 (.v 0)), (8, .int .u64 (.v 0)), (9, .int .u64 (.v 0)), (10, .int .u64 (.v 0)), (11, .int .u64 (.v 0)), (13, .int .u64 (.v 0)), (14, .int .u64 (.v 0)), (15, .int .u64 (.v 0)), (16, .int .u64 (.v 0))] [] 0
def p176_24 : Tmpl := tmplOf 135 [(2, .int .u64 (.v 0)), (8, .int .u64 (.v 0)), (9, .int .u64 (.v 0)), (10, .int .u64 (.v 0)), (14, .int .u64 (.v 0)), (15, .int .u64 (.v 0)), (16, .int .u64 (.v 0)), (17, .int .u64 (.v 0)), (18, .int .u64 (.v 0))] [] 0
noncomputable def t176 : Tr Leaf :=
 (.ask (.app (.cm .eq) [.v 2, .lit (.int (0))])
  (.fail "load")
  (.ask (.app (.cm .le) [.v 2, .v 0])
   (.fail "load")
   (.ask (.app (.cm .eq) [.v 0, .lit (.int (0))])
    (.need (.app (.cm .ne) [.v 2, .lit (.int (0))])
    (.need (.app (.cm .ne) [.v 2, .lit (.int (0))])
    (.ret (.done [.app (.ar .quo .u64) [.v 1, .v 2], .app (.ar .rem .u64) [.v 1, .v 2]]))))
    (.pre 0 [.v 2]
    (.need (.app (.cm .ge) [.app (.wrap .u64) [.app (.call 0 0) [.v 2]], .lit (.int (0))])
    (.need (.app (.cm .ge) [.app (.wrap .u64) [.app (.call 0 0) [.v 2]], .lit (.int (0))])
    (.need (.app (.cm .ge) [.app (.ar .sub .u64) [.lit (.int (64)), .app (.wrap .u64) [.app (.call 0 0) [.v 2]]], .lit (.int (0))])
    (.need (.app (.cm .ge) [.app (.wrap .u64) [.app (.call 0 0) [.v 2]], .lit (.int (0))])
    (.need (.app (.cm .ne) [.app (.ar .shr .u64) [.app (.ar .shl .u64) [.v 2, .app (.wrap .u64) [.app (.call 0 0) [.v 2]]], .lit (.int (32))], .lit (.int (0))])
    (.ret (.cut 0 (todoOf (PV.fast Tryz.prog) 176 17) [.app (.ar .shl .u64) [.v 2, .app (.wrap .u64) [.app (.call 0 0) [.v 2]]], .app (.wrap .u64) [.app (.call 0 0) [.v 2]], .app (.ar .shr .u64) [.app (.ar .shl .u64) [.v 2, .app (.wrap .u64) [.app (.call 0 0) [.v 2]]], .lit (.int (32))], .app (.ar .and .u64) [.app (.ar .shl .u64) [.v 2, .app (.wrap .u64) [.app (.call 0 0) [.v 2]]], .lit (.int (4294967295))], .app (.ar .or .u64) [.app (.ar .shl .u64) [.v 0, .app (.wrap .u64) [.app (.call 0 0) [.v 2]]], .app (.ar .shr .u64) [.v 1, .app (.ar .sub .u64) [.lit (.int (64)), .app (.wrap .u64) [.app (.call 0 0) [.v 2]]]]], .app (.ar .shr .u64) [.app (.ar .shl .u64) [.v 1, .app (.wrap .u64) [.app (.call 0 0) [.v 2]]], .lit (.int (32))], .app (.ar .and .u64) [.app (.ar .shl .u64) [.v 1, .app (.wrap .u64) [.app (.call 0 0) [.v 2]]], .lit (.int (4294967295))], .app (.ar .quo .u64) [.app (.ar .or .u64) [.app (.ar .shl .u64) [.v 0, .app (.wrap .u64) [.app (.call 0 0) [.v 2]]], .app (.ar .shr .u64) [.v 1, .app (.ar .sub .u64) [.lit (.int (64)), .app (.wrap .u64) [.app (.call 0 0) [.v 2]]]]], .app (.ar .shr .u64) [.app (.ar .shl .u64) [.v 2, .app (.wrap .u64) [.app (.call 0 0) [.v 2]]], .lit (.int (32))]], .app (.ar .sub .u64) [.app (.ar .or .u64) [.app (.ar .shl .u64) [.v 0, .app (.wrap .u64) [.app (.call 0 0) [.v 2]]], .app (.ar .shr .u64) [.v 1, .app (.ar .sub .u64) [.lit (.int (64)), .app (.wrap .u64) [.app (.call 0 0) [.v 2]]]]], .app (.ar .mul .u64) [.app (.ar .quo .u64) [.app (.ar .or .u64) [.app (.ar .shl .u64) [.v 0, .app (.wrap .u64) [.app (.call 0 0) [.v 2]]], .app (.ar .shr .u64) [.v 1, .app (.ar .sub .u64) [.lit (.int (64)), .app (.wrap .u64) [.app (.call 0 0) [.v 2]]]]], .app (.ar .shr .u64) [.app (.ar .shl .u64) [.v 2, .app (.wrap .u64) [.app (.call 0 0) [.v 2]]], .lit (.int (32))]], .app (.ar .shr .u64) [.app (.ar .shl .u64) [.v 2, .app (.wrap .u64) [.app (.call 0 0) [.v 2]]], .lit (.int (32))]]]])))))))))))
theorem t176_eq : ((fnC (PV.fast Tryz.prog) G (([s210] : List Sx.Spec).map (·.con)) [⟨17, p176_17⟩, ⟨24, p176_24⟩] 300 c176 20).prune []).toTr = t176 := by kernel_rfl
noncomputable def t176_17 : Tr Leaf :=
 (.ask (.app (.cm .ge) [.v 7, .lit (.int (4294967296))])
  (.ask (.app (.cm .ge) [.app (.ar .add .u64) [.v 8, .v 2], .lit (.int (4294967296))])
   (.need (.app (.cm .ne) [.v 2, .lit (.int (0))])
   (.ret (.cut 1 (todoOf (PV.fast Tryz.prog) 176 24) [.v 0, .v 1, .v 2, .v 3, .v 6, .app (.ar .sub .u64) [.v 7, .lit (.int (1))], .app (.ar .sub .u64) [.app (.ar .sub .u64) [.app (.ar .add .u64) [.app (.ar .mul .u64) [.v 4, .lit (.int (4294967296))], .v 5], .app (.ar .mul .u64) [.app (.ar .sub .u64) [.v 7, .lit (.int (1))], .v 0]], .app (.ar .mul .u64) [.app (.ar .quo .u64) [.app (.ar .sub .u64) [.app (.ar .add .u64) [.app (.ar .mul .u64) [.v 4, .lit (.int (4294967296))], .v 5], .app (.ar .mul .u64) [.app (.ar .sub .u64) [.v 7, .lit (.int (1))], .v 0]], .v 2], .v 2]], .app (.ar .sub .u64) [.app (.ar .add .u64) [.app (.ar .mul .u64) [.v 4, .lit (.int (4294967296))], .v 5], .app (.ar .mul .u64) [.app (.ar .sub .u64) [.v 7, .lit (.int (1))], .v 0]], .app (.ar .quo .u64) [.app (.ar .sub .u64) [.app (.ar .add .u64) [.app (.ar .mul .u64) [.v 4, .lit (.int (4294967296))], .v 5], .app (.ar .mul .u64) [.app (.ar .sub .u64) [.v 7, .lit (.int (1))], .v 0]], .v 2]])))
   (.ret (.cut 0 (todoOf (PV.fast Tryz.prog) 176 17) [.v 0, .v 1, .v 2, .v 3, .v 4, .v 5, .v 6, .app (.ar .sub .u64) [.v 7, .lit (.int (1))], .app (.ar .add .u64) [.v 8, .v 2]])))
  (.ask (.app (.cm .gt) [.app (.ar .mul .u64) [.v 7, .v 3], .app (.ar .add .u64) [.app (.ar .mul .u64) [.lit (.int (4294967296)), .v 8], .v 5]])
   (.ask (.app (.cm .ge) [.app (.ar .add .u64) [.v 8, .v 2], .lit (.int (4294967296))])
    (.need (.app (.cm .ne) [.v 2, .lit (.int (0))])
    (.ret (.cut 1 (todoOf (PV.fast Tryz.prog) 176 24) [.v 0, .v 1, .v 2, .v 3, .v 6, .app (.ar .sub .u64) [.v 7, .lit (.int (1))], .app (.ar .sub .u64) [.app (.ar .sub .u64) [.app (.ar .add .u64) [.app (.ar .mul .u64) [.v 4, .lit (.int (4294967296))], .v 5], .app (.ar .mul .u64) [.app (.ar .sub .u64) [.v 7, .lit (.int (1))], .v 0]], .app (.ar .mul .u64) [.app (.ar .quo .u64) [.app (.ar .sub .u64) [.app (.ar .add .u64) [.app (.ar .mul .u64) [.v 4, .lit (.int (4294967296))], .v 5], .app (.ar .mul .u64) [.app (.ar .sub .u64) [.v 7, .lit (.int (1))], .v 0]], .v 2], .v 2]], .app (.ar .sub .u64) [.app (.ar .add .u64) [.app (.ar .mul .u64) [.v 4, .lit (.int (4294967296))], .v 5], .app (.ar .mul .u64) [.app (.ar .sub .u64) [.v 7, .lit (.int (1))], .v 0]], .app (.ar .quo .u64) [.app (.ar .sub .u64) [.app (.ar .add .u64) [.app (.ar .mul .u64) [.v 4, .lit (.int (4294967296))], .v 5], .app (.ar .mul .u64) [.app (.ar .sub .u64) [.v 7, .lit (.int (1))], .v 0]], .v 2]])))
    (.ret (.cut 0 (todoOf (PV.fast Tryz.prog) 176 17) [.v 0, .v 1, .v 2, .v 3, .v 4, .v 5, .v 6, .app (.ar .sub .u64) [.v 7, .lit (.int (1))], .app (.ar .add .u64) [.v 8, .v 2]])))
   (.need (.app (.cm .ne) [.v 2, .lit (.int (0))])
   (.ret (.cut 1 (todoOf (PV.fast Tryz.prog) 176 24) [.v 0, .v 1, .v 2, .v 3, .v 6, .v 7, .app (.ar .sub .u64) [.app (.ar .sub .u64) [.app (.ar .add .u64) [.app (.ar .mul .u64) [.v 4, .lit (.int (4294967296))], .v 5], .app (.ar .mul .u64) [.v 7, .v 0]], .app (.ar .mul .u64) [.app (.ar .quo .u64) [.app (.ar .sub .u64) [.app (.ar .add .u64) [.app (.ar .mul .u64) [.v 4, .lit (.int (4294967296))], .v 5], .app (.ar .mul .u64) [.v 7, .v 0]], .v 2], .v 2]], .app (.ar .sub .u64) [.app (.ar .add .u64) [.app (.ar .mul .u64) [.v 4, .lit (.int (4294967296))], .v 5], .app (.ar .mul .u64) [.v 7, .v 0]], .app (.ar .quo .u64) [.app (.ar .sub .u64) [.app (.ar .add .u64) [.app (.ar .mul .u64) [.v 4, .lit (.int (4294967296))], .v 5], .app (.ar .mul .u64) [.v 7, .v 0]], .v 2]])))))
theorem t176_17_eq : ((tlC (PV.fast Tryz.prog) G (([s210] : List Sx.Spec).map (·.con)) [⟨17, p176_17⟩, ⟨24, p176_24⟩] 300 c176 20 p176_17 17).prune []).toTr = t176_17 := by kernel_rfl
noncomputable def t176_24 : Tr Leaf :=
 (.ask (.app (.cm .ge) [.v 8, .lit (.int (4294967296))])
  (.ask (.app (.cm .ge) [.app (.ar .add .u64) [.v 6, .v 2], .lit (.int (4294967296))])
   (.need (.app (.cm .ge) [.v 1, .lit (.int (0))])
   (.ret (.done [.app (.ar .add .u64) [.app (.ar .mul .u64) [.v 5, .lit (.int (4294967296))], .app (.ar .sub .u64) [.v 8, .lit (.int (1))]], .app (.ar .shr .u64) [.app (.ar .sub .u64) [.app (.ar .add .u64) [.app (.ar .mul .u64) [.v 7, .lit (.int (4294967296))], .v 4], .app (.ar .mul .u64) [.app (.ar .sub .u64) [.v 8, .lit (.int (1))], .v 0]], .v 1]])))
   (.ret (.cut 1 (todoOf (PV.fast Tryz.prog) 176 24) [.v 0, .v 1, .v 2, .v 3, .v 4, .v 5, .app (.ar .add .u64) [.v 6, .v 2], .v 7, .app (.ar .sub .u64) [.v 8, .lit (.int (1))]])))
  (.ask (.app (.cm .gt) [.app (.ar .mul .u64) [.v 8, .v 3], .app (.ar .add .u64) [.app (.ar .mul .u64) [.lit (.int (4294967296)), .v 6], .v 4]])
   (.ask (.app (.cm .ge) [.app (.ar .add .u64) [.v 6, .v 2], .lit (.int (4294967296))])
    (.need (.app (.cm .ge) [.v 1, .lit (.int (0))])
    (.ret (.done [.app (.ar .add .u64) [.app (.ar .mul .u64) [.v 5, .lit (.int (4294967296))], .app (.ar .sub .u64) [.v 8, .lit (.int (1))]], .app (.ar .shr .u64) [.app (.ar .sub .u64) [.app (.ar .add .u64) [.app (.ar .mul .u64) [.v 7, .lit (.int (4294967296))], .v 4], .app (.ar .mul .u64) [.app (.ar .sub .u64) [.v 8, .lit (.int (1))], .v 0]], .v 1]])))
    (.ret (.cut 1 (todoOf (PV.fast Tryz.prog) 176 24) [.v 0, .v 1, .v 2, .v 3, .v 4, .v 5, .app (.ar .add .u64) [.v 6, .v 2], .v 7, .app (.ar .sub .u64) [.v 8, .lit (.int (1))]])))
   (.need (.app (.cm .ge) [.v 1, .lit (.int (0))])
   (.ret (.done [.app (.ar .add .u64) [.app (.ar .mul .u64) [.v 5, .lit (.int (4294967296))], .v 8], .app (.ar .shr .u64) [.app (.ar .sub .u64) [.app (.ar .add .u64) [.app (.ar .mul .u64) [.v 7, .lit (.int (4294967296))], .v 4], .app (.ar .mul .u64) [.v 8, .v 0]], .v 1]])))))
theorem t176_24_eq : ((tlC (PV.fast Tryz.prog) G (([s210] : List Sx.Spec).map (·.con)) [⟨17, p176_17⟩, ⟨24, p176_24⟩] 300 c176 20 p176_24 24).prune []).toTr = t176_24 := by kernel_rfl

def div64 (ds : List D) : List D :=
  let n := (ds.getD 0 default).toInt * 18446744073709551616 + (ds.getD 1 default).toInt
  [.int (n / (ds.getD 2 default).toInt), .int (n % (ds.getD 2 default).toInt)]
def s176 : Sx.Spec where
  con := { c176 with fold := some div64 }
  pre ds := (0 ≤ (ds.getD 0 default).toInt ∧ (ds.getD 0 default).toInt < (ds.getD 2 default).toInt) ∧ (ds.getD 2 default).toInt < 18446744073709551616 ∧ 0 ≤ (ds.getD 1 default).toInt ∧ (ds.getD 1 default).toInt < 18446744073709551616
  fn := div64
def e176_17 : Tail where
  id := 17
  τ := p176_17
  pre ds := L64.Rd (ds.getD 0 default).toInt (ds.getD 2 default).toInt (ds.getD 3 default).toInt (ds.getD 4 default).toInt (ds.getD 5 default).toInt (ds.getD 7 default).toInt (ds.getD 8 default).toInt ∧
    (0 ≤ (ds.getD 1 default).toInt ∧ (ds.getD 1 default).toInt ≤ 63) ∧ 0 ≤ (ds.getD 6 default).toInt ∧ (ds.getD 6 default).toInt < 4294967296
  fn ds :=
    let Y := (ds.getD 0 default).toInt
    let n := (ds.getD 4 default).toInt * 4294967296 + (ds.getD 5 default).toInt
    let m := n % Y * 4294967296 + (ds.getD 6 default).toInt
    [.int (n / Y * 4294967296 + m / Y), .int (m % Y / 2 ^ (ds.getD 1 default).toInt.toNat)]
  meas ds := (ds.getD 7 default).toInt.toNat + 1099511627776
def e176_24 : Tail where
  id := 24
  τ := p176_24
  pre ds := L64.Rd (ds.getD 0 default).toInt (ds.getD 2 default).toInt (ds.getD 3 default).toInt (ds.getD 7 default).toInt (ds.getD 4 default).toInt (ds.getD 8 default).toInt (ds.getD 6 default).toInt ∧
    (0 ≤ (ds.getD 1 default).toInt ∧ (ds.getD 1 default).toInt ≤ 63) ∧ 0 ≤ (ds.getD 5 default).toInt ∧ (ds.getD 5 default).toInt < 4294967296
  fn ds :=
    let Y := (ds.getD 0 default).toInt
    let m := (ds.getD 7 default).toInt * 4294967296 + (ds.getD 4 default).toInt
    [.int ((ds.getD 5 default).toInt * 4294967296 + m / Y), .int (m % Y / 2 ^ (ds.getD 1 default).toInt.toNat)]
  meas ds := (ds.getD 8 default).toInt.toNat

theorem v176_24 (ds : List D) (h : e176_24.pre ds) : t176_24.holds (fnOf [s210]) (preOf [s210]) ds (Leaf.Ok (PV.fast Tryz.prog) c176 [e176_17, e176_24] (fnOf [s210]) ds (e176_24.fn ds) (· < e176_24.meas ds)) := by
  obtain ⟨hR, hs, hq⟩ := h
  have hm : e176_24.meas ds = (ds.getD 8 default).toInt.toNat := rfl
  have hfn : e176_24.fn ds = [.int ((ds.getD 5 default).toInt * 4294967296 + ((ds.getD 7 default).toInt * 4294967296 + (ds.getD 4 default).toInt) / (ds.getD 0 default).toInt),
    .int (((ds.getD 7 default).toInt * 4294967296 + (ds.getD 4 default).toInt) % (ds.getD 0 default).toInt / 2 ^ (ds.getD 1 default).toInt.toNat)] := rfl
  have hY : 0 < (ds.getD 0 default).toInt := by have := hR.hY0; omega
  rw [hfn, hm]
  simp only [t176_24, Tr.holds, T.eval, T.evals, pe_ar, pe_wrap, pe_mn, pe_mx, pe_cm, pe_not, pe_beq, pe_ite, pe_len, pe_slen, pe_sat, pe_call, fnOf, cm_eq, cm_ne, cm_lt, cm_le, cm_gt, cm_ge, ar_add, ar_sub, ar_mul, ar_quo, ar_rem, ar_shl, ar_shr, wrap_u64, wrap_i64, wrap_u8, D.toInt_int, D.toBool_bool, decide_eq_true_eq, decide_eq_false_iff_not, Leaf.Ok]
  have again : (ds.getD 7 default).toInt * 4294967296 + (ds.getD 4 default).toInt < (ds.getD 8 default).toInt * (ds.getD 0 default).toInt →
      (4294967296 ≤ ((ds.getD 6 default).toInt + (ds.getD 2 default).toInt) % 18446744073709551616 →
        0 ≤ (ds.getD 1 default).toInt ∧ AgreeS c176.rs
          [.int (((ds.getD 5 default).toInt * 4294967296 % 18446744073709551616 + ((ds.getD 8 default).toInt - 1) % 18446744073709551616) % 18446744073709551616),
           .int (((((ds.getD 7 default).toInt * 4294967296 % 18446744073709551616 + (ds.getD 4 default).toInt) % 18446744073709551616 -
              ((ds.getD 8 default).toInt - 1) % 18446744073709551616 * (ds.getD 0 default).toInt % 18446744073709551616) % 18446744073709551616).fdiv (2 ^ min (ds.getD 1 default).toInt.toNat IntKind.u64.bits))]
          [.int ((ds.getD 5 default).toInt * 4294967296 + ((ds.getD 7 default).toInt * 4294967296 + (ds.getD 4 default).toInt) / (ds.getD 0 default).toInt),
           .int (((ds.getD 7 default).toInt * 4294967296 + (ds.getD 4 default).toInt) % (ds.getD 0 default).toInt / 2 ^ (ds.getD 1 default).toInt.toNat)]) ∧
      (¬ 4294967296 ≤ ((ds.getD 6 default).toInt + (ds.getD 2 default).toInt) % 18446744073709551616 →
        ∃ t, [e176_17, e176_24][1]? = some t ∧ todoOf (PV.fast Tryz.prog) 176 24 = todoOf (PV.fast Tryz.prog) c176.f t.id ∧
          t.pre [ds.getD 0 default, ds.getD 1 default, ds.getD 2 default, ds.getD 3 default, ds.getD 4 default, ds.getD 5 default,
            .int (((ds.getD 6 default).toInt + (ds.getD 2 default).toInt) % 18446744073709551616), ds.getD 7 default, .int (((ds.getD 8 default).toInt - 1) % 18446744073709551616)] ∧
          t.meas [ds.getD 0 default, ds.getD 1 default, ds.getD 2 default, ds.getD 3 default, ds.getD 4 default, ds.getD 5 default,
            .int (((ds.getD 6 default).toInt + (ds.getD 2 default).toInt) % 18446744073709551616), ds.getD 7 default, .int (((ds.getD 8 default).toInt - 1) % 18446744073709551616)] < (ds.getD 8 default).toInt.toNat ∧
          AgreeS c176.rs (t.fn [ds.getD 0 default, ds.getD 1 default, ds.getD 2 default, ds.getD 3 default, ds.getD 4 default, ds.getD 5 default,
            .int (((ds.getD 6 default).toInt + (ds.getD 2 default).toInt) % 18446744073709551616), ds.getD 7 default, .int (((ds.getD 8 default).toInt - 1) % 18446744073709551616)])
          [.int ((ds.getD 5 default).toInt * 4294967296 + ((ds.getD 7 default).toInt * 4294967296 + (ds.getD 4 default).toInt) / (ds.getD 0 default).toInt),
           .int (((ds.getD 7 default).toInt * 4294967296 + (ds.getD 4 default).toInt) % (ds.getD 0 default).toInt / 2 ^ (ds.getD 1 default).toInt.toNat)]) := by
    intro hc
    obtain ⟨n1, n2, n3, n4, n5⟩ := hR.next hc
    rw [n2, n3]
    refine ⟨fun c => ?_, fun c => ⟨e176_24, rfl, rfl, ⟨n4 (by omega), hs, hq⟩, ?_, AgreeS.refl _ _⟩⟩
    · obtain ⟨m1, m2⟩ := n5 c
      obtain ⟨f1, f2⟩ := L64.fin2 (q1 := (ds.getD 5 default).toInt) (s := (ds.getD 1 default).toInt) hY hR.hY1 m2 (by rw [show (ds.getD 8 default).toInt - 1 + 1 = (ds.getD 8 default).toInt from by omega]; exact hc) (by omega) m1 hq.1 hq.2 hs
      exact ⟨hs.1, f1, f2, trivial⟩
    · show ((ds.getD 8 default).toInt - 1).toNat < _
      omega
  refine ⟨fun c => again (hR.over c), fun c => ?_⟩
  obtain ⟨x1, x2, x3⟩ := hR.test (by omega)
  rw [x1, x2]
  refine ⟨fun c2 => again (x3.1 c2), fun c2 => ?_⟩
  obtain ⟨f1, f2⟩ := L64.fin2 (q1 := (ds.getD 5 default).toInt) (s := (ds.getD 1 default).toInt) hY hR.hY1 (by have := (not_congr x3).1 c2; omega) hR.big hR.hq0 (by omega) hq.1 hq.2 hs
  exact ⟨hs.1, f1, f2, trivial⟩

theorem v176_17 (ds : List D) (h : e176_17.pre ds) : t176_17.holds (fnOf [s210]) (preOf [s210]) ds (Leaf.Ok (PV.fast Tryz.prog) c176 [e176_17, e176_24] (fnOf [s210]) ds (e176_17.fn ds) (· < e176_17.meas ds)) := by
  obtain ⟨hR, hs, hq⟩ := h
  have hm : e176_17.meas ds = (ds.getD 7 default).toInt.toNat + 1099511627776 := rfl
  have hfn : e176_17.fn ds = [.int (((ds.getD 4 default).toInt * 4294967296 + (ds.getD 5 default).toInt) / (ds.getD 0 default).toInt * 4294967296 +
      (((ds.getD 4 default).toInt * 4294967296 + (ds.getD 5 default).toInt) % (ds.getD 0 default).toInt * 4294967296 + (ds.getD 6 default).toInt) / (ds.getD 0 default).toInt),
    .int ((((ds.getD 4 default).toInt * 4294967296 + (ds.getD 5 default).toInt) % (ds.getD 0 default).toInt * 4294967296 + (ds.getD 6 default).toInt) % (ds.getD 0 default).toInt / 2 ^ (ds.getD 1 default).toInt.toNat)] := rfl
  generalize e176_17.fn ds = goal at hfn ⊢
  have hY : 0 < (ds.getD 0 default).toInt := by have := hR.hY0; omega
  have hY1 := hR.hY1
  obtain ⟨b1, b2, b3, b4⟩ := hR.y1b
  rw [hm]
  simp only [t176_17, Tr.holds, T.eval, T.evals, pe_ar, pe_wrap, pe_mn, pe_mx, pe_cm, pe_not, pe_beq, pe_ite, pe_len, pe_slen, pe_sat, pe_call, fnOf, cm_eq, cm_ne, cm_lt, cm_le, cm_gt, cm_ge, ar_add, ar_sub, ar_mul, ar_quo, ar_rem, ar_shl, ar_shr, wrap_u64, wrap_i64, wrap_u8, D.toInt_int, D.toBool_bool, decide_eq_true_eq, decide_eq_false_iff_not, Leaf.Ok]
  have last : ∀ (d : D) (a z b : Int), d.toInt * (ds.getD 0 default).toInt ≤ (ds.getD 4 default).toInt * 4294967296 + (ds.getD 5 default).toInt →
      (ds.getD 4 default).toInt * 4294967296 + (ds.getD 5 default).toInt < (d.toInt + 1) * (ds.getD 0 default).toInt → 0 ≤ d.toInt → d.toInt < 4294967296 →
      z = ((ds.getD 4 default).toInt * 4294967296 + (ds.getD 5 default).toInt) % (ds.getD 0 default).toInt →
      a = (z - z.tdiv (ds.getD 2 default).toInt % 18446744073709551616 * (ds.getD 2 default).toInt % 18446744073709551616) % 18446744073709551616 →
      b = z.tdiv (ds.getD 2 default).toInt % 18446744073709551616 →
      (ds.getD 2 default).toInt ≠ 0 ∧ ∃ t, [e176_17, e176_24][1]? = some t ∧ todoOf (PV.fast Tryz.prog) 176 24 = todoOf (PV.fast Tryz.prog) c176.f t.id ∧
        t.pre [ds.getD 0 default, ds.getD 1 default, ds.getD 2 default, ds.getD 3 default, ds.getD 6 default, d, .int a, .int z, .int b] ∧
        t.meas [ds.getD 0 default, ds.getD 1 default, ds.getD 2 default, ds.getD 3 default, ds.getD 6 default, d, .int a, .int z, .int b] < (ds.getD 7 default).toInt.toNat + 1099511627776 ∧
        AgreeS c176.rs (t.fn [ds.getD 0 default, ds.getD 1 default, ds.getD 2 default, ds.getD 3 default, ds.getD 6 default, d, .int a, .int z, .int b]) goal := by
    intro d a z b h1 h2 h3 h4 hz ha hb
    have r0 := Int.emod_nonneg ((ds.getD 4 default).toInt * 4294967296 + (ds.getD 5 default).toInt) (show (ds.getD 0 default).toInt ≠ 0 by omega)
    have r1 := Int.emod_lt_of_pos ((ds.getD 4 default).toInt * 4294967296 + (ds.getD 5 default).toInt) hY
    obtain ⟨dq, _⟩ := L64.Rd.done hY h1 h2
    rw [← hz] at r0 r1 hfn
    rw [← dq] at hfn
    obtain ⟨f1, f2⟩ := L64.fin1 b1 b2 r0 (by omega)
    rw [f1] at ha hb
    rw [f2] at ha
    have hS := L64.Rd.start hR.hY0 hR.hY1 hR.hy1 hR.hy0 r0 r1 hq.1 hq.2
    rw [← ha, ← hb] at hS
    refine ⟨by omega, e176_24, rfl, rfl, ⟨hS, hs, h3, h4⟩, ?_, ?_⟩
    · have := hS.q1
      show b.toNat < _
      omega
    · rw [hfn]; exact AgreeS.refl _ _
  have again : (ds.getD 4 default).toInt * 4294967296 + (ds.getD 5 default).toInt < (ds.getD 7 default).toInt * (ds.getD 0 default).toInt →
      (4294967296 ≤ ((ds.getD 8 default).toInt + (ds.getD 2 default).toInt) % 18446744073709551616 →
        (ds.getD 7 default).toInt - 1 < 4294967296 ∧ 0 ≤ (ds.getD 7 default).toInt - 1 ∧ ((ds.getD 7 default).toInt - 1) % 18446744073709551616 = (ds.getD 7 default).toInt - 1 ∧
        ((ds.getD 7 default).toInt - 1) * (ds.getD 0 default).toInt ≤ (ds.getD 4 default).toInt * 4294967296 + (ds.getD 5 default).toInt ∧
        (ds.getD 4 default).toInt * 4294967296 + (ds.getD 5 default).toInt < ((ds.getD 7 default).toInt - 1 + 1) * (ds.getD 0 default).toInt) ∧
      (¬ 4294967296 ≤ ((ds.getD 8 default).toInt + (ds.getD 2 default).toInt) % 18446744073709551616 →
        ∃ t, [e176_17, e176_24][0]? = some t ∧ todoOf (PV.fast Tryz.prog) 176 17 = todoOf (PV.fast Tryz.prog) c176.f t.id ∧
          t.pre [ds.getD 0 default, ds.getD 1 default, ds.getD 2 default, ds.getD 3 default, ds.getD 4 default, ds.getD 5 default, ds.getD 6 default,
            .int (((ds.getD 7 default).toInt - 1) % 18446744073709551616), .int (((ds.getD 8 default).toInt + (ds.getD 2 default).toInt) % 18446744073709551616)] ∧
          t.meas [ds.getD 0 default, ds.getD 1 default, ds.getD 2 default, ds.getD 3 default, ds.getD 4 default, ds.getD 5 default, ds.getD 6 default,
            .int (((ds.getD 7 default).toInt - 1) % 18446744073709551616), .int (((ds.getD 8 default).toInt + (ds.getD 2 default).toInt) % 18446744073709551616)] < (ds.getD 7 default).toInt.toNat + 1099511627776 ∧
          AgreeS c176.rs (t.fn [ds.getD 0 default, ds.getD 1 default, ds.getD 2 default, ds.getD 3 default, ds.getD 4 default, ds.getD 5 default, ds.getD 6 default,
            .int (((ds.getD 7 default).toInt - 1) % 18446744073709551616), .int (((ds.getD 8 default).toInt + (ds.getD 2 default).toInt) % 18446744073709551616)]) goal) := by
    intro hc
    obtain ⟨n1, n2, n3, n4, n5⟩ := hR.next hc
    rw [n2, n3]
    refine ⟨fun c => ?_, fun c => ⟨e176_17, rfl, rfl, ⟨n4 (by omega), hs, hq⟩, ?_, by rw [hfn]; exact AgreeS.refl _ _⟩⟩
    · obtain ⟨m1, m2⟩ := n5 c
      exact ⟨m1, by omega, rfl, m2, by rw [show (ds.getD 7 default).toInt - 1 + 1 = (ds.getD 7 default).toInt from by omega]; exact hc⟩
    · show ((ds.getD 7 default).toInt - 1).toNat + 1099511627776 < _
      omega
  have fin : ∀ hc : (ds.getD 4 default).toInt * 4294967296 + (ds.getD 5 default).toInt < (ds.getD 7 default).toInt * (ds.getD 0 default).toInt, _ := fun hc c => by
    obtain ⟨m1, m2, m3, m4, m5⟩ := (again hc).1 c
    refine last (.int (((ds.getD 7 default).toInt - 1) % 18446744073709551616)) _ _ _ ?_ ?_ ?_ ?_ (L64.rem_eq hY hY1 (q := ((ds.getD 7 default).toInt - 1) % 18446744073709551616) ?_ ?_) rfl rfl <;> (try rw [D.toInt_int]) <;> rw [m3] <;> assumption
  refine ⟨fun c => ⟨fin (hR.over c), (again (hR.over c)).2⟩, fun c => ?_⟩
  obtain ⟨x1, x2, x3⟩ := hR.test (by omega)
  rw [x1, x2]
  refine ⟨fun c2 => ⟨fin (x3.1 c2), (again (x3.1 c2)).2⟩, fun c2 => ?_⟩
  have hle := (not_congr x3).1 c2
  exact last (ds.getD 7 default) _ _ _ (by omega) hR.big hR.hq0 (by omega) (L64.rem_eq hY hY1 (by omega) hR.big) rfl rfl
end Go.Proofs.YteaiikmijhikpaaGreatDoor
end
section
namespace Go.Sx
open Go
theorem bits_u64 {o : Ar} {f : Nat → Nat → Nat} (hf : ∀ (a b : BitVec 64), (bitsOf o .u64 a.toNat b.toNat) = IntKind.u64.wrap (f a.toNat b.toNat)) {x y : Int} (hx0 : 0 ≤ x) (hx : x < 18446744073709551616) (hy0 : 0 ≤ y) (hy : y < 18446744073709551616)
    (hlt : f x.toNat y.toNat < 18446744073709551616) : bitsOf o .u64 x y = (f x.toNat y.toNat : Nat) := by
  have h := hf (BitVec.ofNat 64 x.toNat) (BitVec.ofNat 64 y.toNat)
  rw [BitVec.toNat_ofNat, BitVec.toNat_ofNat, Nat.mod_eq_of_lt (by omega), Nat.mod_eq_of_lt (by omega), Int.toNat_of_nonneg hx0, Int.toNat_of_nonneg hy0, wrap_u64] at h
  rw [h]
  omega
theorem or_u64 {x y : Int} (hx0 : 0 ≤ x) (hx : x < 18446744073709551616) (hy0 : 0 ≤ y) (hy : y < 18446744073709551616) : Ar.eval .or .u64 x y = ((x.toNat ||| y.toNat : Nat) : Int) := by
  refine bits_u64 (o := .or) (f := fun a b => a ||| b) (fun a b => ?_) hx0 hx hy0 hy (Nat.or_lt_two_pow (n := 64) (by omega) (by omega))
  simp only [bitsOf]
  rw [show IntKind.u64.bits = 64 from rfl, BitVec.toNat_or, BitVec.ofInt_natCast, BitVec.ofInt_natCast, BitVec.ofNat_toNat, BitVec.ofNat_toNat]
  simp
theorem and_u64 {x y : Int} (hx0 : 0 ≤ x) (hx : x < 18446744073709551616) (hy0 : 0 ≤ y) (hy : y < 18446744073709551616) : Ar.eval .and .u64 x y = ((x.toNat &&& y.toNat : Nat) : Int) := by
  refine bits_u64 (o := .and) (f := fun a b => a &&& b) (fun a b => ?_) hx0 hx hy0 hy (Nat.and_lt_two_pow (n := 64) _ (by omega))
  simp only [bitsOf]
  rw [show IntKind.u64.bits = 64 from rfl, BitVec.toNat_and, BitVec.ofInt_natCast, BitVec.ofInt_natCast, BitVec.ofNat_toNat, BitVec.ofNat_toNat]
  simp
theorem mask32 {x : Int} (hx0 : 0 ≤ x) (hx : x < 18446744073709551616) : Ar.eval .and .u64 x 4294967295 = x % 4294967296 := by
  rw [and_u64 hx0 hx (by omega) (by omega)]
  have h := Nat.and_two_pow_sub_one_eq_mod x.toNat 32
  have e : (4294967295 : Int).toNat = 2 ^ 32 - 1 := by decide
  rw [e, h]
  omega
theorem or_shift {a b : Int} {s : Nat} (ha : 0 ≤ a) (hb0 : 0 ≤ b) (hb : b < 2 ^ s) (h1 : a * 2 ^ s < 18446744073709551616) (h2 : b < 18446744073709551616) : Ar.eval .or .u64 (a * 2 ^ s) b = a * 2 ^ s + b := by
  have hp : (0 : Int) < 2 ^ s := Int.pow_pos (by omega)
  have h0 : 0 ≤ a * 2 ^ s := Int.mul_nonneg ha (by omega)
  rw [or_u64 h0 h1 hb0 h2]
  have e : (a * 2 ^ s).toNat = 2 ^ s * a.toNat := by
    have : ((2 ^ s * a.toNat : Nat) : Int) = a * 2 ^ s := by
      rw [Int.natCast_mul, Int.toNat_of_nonneg ha, Int.mul_comm]; simp
    omega
  have hb' : b.toNat < 2 ^ s := by
    have : ((2 ^ s : Nat) : Int) = (2 : Int) ^ s := by simp
    omega
  rw [e, ← Nat.two_pow_add_eq_or_of_lt hb']
  omega
end Go.Sx
end
section
namespace Go.Proofs.YteaiikmijhikpaaGreatDoor
open Go Go.Sx
set_option maxRecDepth 100000

theorem v176 (ds : List D) (h : s176.pre ds) : t176.holds (fnOf [s210]) (preOf [s210]) ds (Leaf.Ok (PV.fast Tryz.prog) c176 [e176_17, e176_24] (fnOf [s210]) ds (s176.fn ds) (fun _ => True)) := by
  obtain ⟨⟨ha0, hac⟩, hc1, hb0, hb1⟩ := h
  have hgoal : s176.fn ds = [.int (((ds.getD 0 default).toInt * 18446744073709551616 + (ds.getD 1 default).toInt) / (ds.getD 2 default).toInt),
    .int (((ds.getD 0 default).toInt * 18446744073709551616 + (ds.getD 1 default).toInt) % (ds.getD 2 default).toInt)] := rfl
  generalize s176.fn ds = goal at hgoal ⊢
  obtain ⟨s, hs, hfn, hn0, hn1⟩ := s210_val (ds.getD 2 default) (by omega) hc1
  have z1 : (s : Int) % 18446744073709551616 = s := by omega
  have z2 : ((64 : Int) - s) % 18446744073709551616 = 64 - s := by omega
  have m1 : min (s : Int).toNat IntKind.u64.bits = s := Nat.min_eq_left (by show (s : Int).toNat ≤ 64; omega)
  have m2 : min ((64 : Int) - s).toNat IntKind.u64.bits = 64 - s := by
    rw [show ((64 : Int) - s).toNat = 64 - s from by omega]
    exact Nat.min_eq_left (by show 64 - s ≤ 64; omega)
  have m3 : ∀ x : Int, x.fdiv (2 ^ (min (32 : Int).toNat IntKind.u64.bits)) = x / 4294967296 := fun x => Int.fdiv_eq_ediv_of_nonneg _ (by decide)
  simp only [t176, Tr.holds, T.eval, T.evals, pe_ar, pe_wrap, pe_mn, pe_mx, pe_cm, pe_not, pe_beq, pe_ite, pe_len, pe_slen, pe_sat, pe_call, fnOf, cm_eq, cm_ne, cm_lt, cm_le, cm_gt, cm_ge, ar_add, ar_sub, ar_mul, ar_quo, ar_rem, ar_shl, ar_shr, wrap_u64, wrap_i64, wrap_u8, hfn, List.getD_cons_zero, D.toInt_int, D.toBool_bool, decide_eq_true_eq, decide_eq_false_iff_not, Leaf.Ok, z1, z2, m1, m2, m3, preOf]
  refine ⟨fun c => by omega, fun _ => ⟨fun c => by omega, fun _ => ⟨fun c => ⟨by omega, by omega, ?_⟩, fun c => ?_⟩⟩⟩
  · rw [hgoal, c]
    have e : (0 : Int) * 18446744073709551616 + (ds.getD 1 default).toInt = (ds.getD 1 default).toInt := by omega
    rw [e]
    refine ⟨?_, ?_, trivial⟩
    · simp only [List.headD_cons, D.toInt_int, Agree]
      rw [Int.tdiv_eq_ediv_of_nonneg hb0]
      have := Int.ediv_nonneg hb0 (show 0 ≤ (ds.getD 2 default).toInt by omega)
      have := Int.ediv_le_self (ds.getD 2 default).toInt hb0
      omega
    · simp only [List.headD_cons, List.tail_cons, D.toInt_int, Agree]
      rw [Int.tmod_eq_emod_of_nonneg hb0]
  generalize (ds.getD 0 default).toInt = a at *
  generalize (ds.getD 1 default).toInt = b at *
  generalize (ds.getD 2 default).toInt = c at *
  have hp : (0 : Int) < 2 ^ s := Int.pow_pos (by omega)
  have hp' : (0 : Int) < 2 ^ (64 - s) := Int.pow_pos (by omega)
  have hpp : (2 : Int) ^ s * 2 ^ (64 - s) = 18446744073709551616 := by rw [← Int.pow_add, show s + (64 - s) = 64 from by omega]; rfl
  have hY : c * 2 ^ s % 18446744073709551616 = c * 2 ^ s := by omega
  have hab : a * 2 ^ s < c * 2 ^ s := L64.mul_lt hac hp
  have ha2 : 0 ≤ a * 2 ^ s := Int.mul_nonneg ha0 (by omega)
  have hA : a * 2 ^ s % 18446744073709551616 = a * 2 ^ s := by omega
  have hB : b.fdiv (2 ^ (64 - s)) = b / 2 ^ (64 - s) := Int.fdiv_eq_ediv_of_nonneg _ (by omega)
  have hb2 : b / 2 ^ (64 - s) < 2 ^ s := by
    apply Int.ediv_lt_of_lt_mul hp'
    rw [hpp]; exact hb1
  have hb3 : 0 ≤ b / 2 ^ (64 - s) := Int.ediv_nonneg hb0 (by omega)
  have hb4 : b / 2 ^ (64 - s) < 18446744073709551616 := Int.lt_of_le_of_lt (Int.ediv_le_self _ hb0) hb1
  have hor := or_shift (s := s) ha0 hb3 hb2 (by omega) hb4
  rw [hY, hA, hB, hor]
  have hd : b * 2 ^ s / 18446744073709551616 = b / 2 ^ (64 - s) := by
    rw [← hpp, Int.mul_comm b, Int.mul_ediv_mul_of_pos _ _ hp]
  have hme := Int.mul_ediv_add_emod (b * 2 ^ s) 18446744073709551616
  rw [hd] at hme
  have hN : (a * 18446744073709551616 + b) * 2 ^ s = (a * 2 ^ s + b / 2 ^ (64 - s)) * 18446744073709551616 + b * 2 ^ s % 18446744073709551616 := by
    rw [Int.add_mul, Int.mul_right_comm]
    omega
  have hU : a * 2 ^ s + b / 2 ^ (64 - s) < c * 2 ^ s := by
    have h1 : (a + 1) * 2 ^ s ≤ c * 2 ^ s := L64.mul_le (by omega) (by omega)
    rw [Int.add_mul, Int.one_mul] at h1
    omega
  generalize hUe : a * 2 ^ s + b / 2 ^ (64 - s) = U at *
  have hU0 : 0 ≤ U := by omega
  generalize hL : b * 2 ^ s % 18446744073709551616 = L at *
  have hL0 : 0 ≤ L := by omega
  have hL1 : L < 18446744073709551616 := by omega
  rw [mask32 (by omega) hn1, mask32 hL0 hL1]
  have hRd := L64.Rd.start (Y := c * 2 ^ s) hn0 hn1 rfl rfl hU0 hU (u := L / 4294967296) (by omega) (by omega)
  obtain ⟨b1, b2, b3, b4⟩ := hRd.y1b
  obtain ⟨f1, f2⟩ := L64.fin1 b1 b2 hU0 (by omega)
  rw [f1, f2]
  have hboth := L64.both (N := a * 18446744073709551616 + b) (y := c) (p := 2 ^ s) (Y := c * 2 ^ s) (U := U) (u1 := L / 4294967296) (u0 := L % 4294967296) hp (by omega) rfl (by rw [hN]; omega) (by omega) (by omega)
  refine ⟨trivial, by omega, by omega, by omega, by omega, by omega, e176_17, rfl, rfl, ⟨hRd, ⟨by show (0 : Int) ≤ (s : Int); omega, by show (s : Int) ≤ 63; omega⟩, ?_⟩, trivial, ?_⟩
  · exact ⟨Int.emod_nonneg _ (by omega), Int.emod_lt_of_pos _ (by omega)⟩
  · rw [hgoal]
    refine ⟨hboth.1, ?_, trivial⟩
    have := hboth.2
    exact this

theorem s176_ok : s176.Ok Tryz.prog G := by
  refine spec_cut [s210] (by simp only [List.mem_cons, List.not_mem_nil, or_false, forall_eq]; exact s210_ok) s176 [e176_17, e176_24] 300 20 (fun g hg ds _ => by simp only [s176, Option.some.injEq] at hg ⊢; rw [hg]) ?_ t176 t176_eq v176
  intro t ht
  simp only [List.mem_cons, List.not_mem_nil, or_false] at ht
  rcases ht with rfl | rfl
  · exact ⟨t176_17, t176_17_eq, v176_17⟩
  · exact ⟨t176_24, t176_24_eq, v176_24⟩
end Go.Proofs.YteaiikmijhikpaaGreatDoor
end
section
namespace Go.Proofs.YteaiikmijhikpaaGreatDoor
open Go Go.Sx
set_option maxRecDepth 100000

theorem s166_rng (x y : D) : (0 ≤ ((s166.fn [x, y]).getD 0 default).toInt ∧ ((s166.fn [x, y]).getD 0 default).toInt < 18446744073709551616) ∧
    0 ≤ ((s166.fn [x, y]).getD 1 default).toInt ∧ ((s166.fn [x, y]).getD 1 default).toInt < 18446744073709551616 := by
  have e : s166.fn [x, y] = t166.run (fnOf []) [x, y] := rfl
  rw [e]
  simp only [t166, Tr.run, T.eval, T.evals, pe_ar, pe_wrap, pe_mn, pe_mx, pe_cm, pe_not, pe_beq, pe_ite, pe_len, pe_slen, pe_sat, pe_call, fnOf, cm_eq, cm_ne, cm_lt, cm_le, cm_gt, cm_ge, ar_add, ar_sub, ar_mul, ar_quo, ar_rem, ar_shl, ar_shr, wrap_u64, wrap_i64, wrap_u8, List.getD_cons_zero, List.getD_cons_succ, D.toInt_int]
  exact ⟨⟨Int.emod_nonneg _ (by omega), Int.emod_lt_of_pos _ (by omega)⟩, Int.emod_nonneg _ (by omega), Int.emod_lt_of_pos _ (by omega)⟩
/-- compositor/interval.ratio -/
def c126 : Con := { f := 126, ps := [.at (.int .i64), .at (.int .i64), .at (.int .i64)], rs := [.at (.int .i64), .at (.int .i64), .at (.bool)] }
def t126 : Tr Leaf :=
 (.pre 1 [.v 0]
 (.pre 1 [.v 1]
 (.pre 0 [.app (.call 1 0) [.v 0], .app (.call 1 0) [.v 1]]
 (.ask (.app (.cm .ge) [.app (.call 0 0) [.app (.call 1 0) [.v 0], .app (.call 1 0) [.v 1]], .app (.wrap .u64) [.v 2]])
  (.ret (.done [.lit (.int (0)), .lit (.int (0)), .lit (.bool false)]))
  (.pre 2 [.app (.call 0 0) [.app (.call 1 0) [.v 0], .app (.call 1 0) [.v 1]], .app (.call 0 1) [.app (.call 1 0) [.v 0], .app (.call 1 0) [.v 1]], .app (.wrap .u64) [.v 2]]
  (.ask (.app (.cm .gt) [.app (.call 2 0) [.app (.call 0 0) [.app (.call 1 0) [.v 0], .app (.call 1 0) [.v 1]], .app (.call 0 1) [.app (.call 1 0) [.v 0], .app (.call 1 0) [.v 1]], .app (.wrap .u64) [.v 2]], .lit (.int (17592186044416))])
   (.ret (.done [.lit (.int (0)), .lit (.int (0)), .lit (.bool false)]))
   (.ask (.app (.cm .gt) [.app (.call 2 1) [.app (.call 0 0) [.app (.call 1 0) [.v 0], .app (.call 1 0) [.v 1]], .app (.call 0 1) [.app (.call 1 0) [.v 0], .app (.call 1 0) [.v 1]], .app (.wrap .u64) [.v 2]], .lit (.int (0))])
    (.ask (.app .beq [.app (.cm .lt) [.v 0, .lit (.int (0))], .app (.cm .lt) [.v 1, .lit (.int (0))]])
     (.ret (.done [.app (.wrap .i64) [.app (.call 2 0) [.app (.call 0 0) [.app (.call 1 0) [.v 0], .app (.call 1 0) [.v 1]], .app (.call 0 1) [.app (.call 1 0) [.v 0], .app (.call 1 0) [.v 1]], .app (.wrap .u64) [.v 2]]], .app (.ar .add .i64) [.app (.wrap .i64) [.app (.call 2 0) [.app (.call 0 0) [.app (.call 1 0) [.v 0], .app (.call 1 0) [.v 1]], .app (.call 0 1) [.app (.call 1 0) [.v 0], .app (.call 1 0) [.v 1]], .app (.wrap .u64) [.v 2]]], .lit (.int (1))], .lit (.bool true)]))
     (.ret (.done [.app (.ar .sub .i64) [.lit (.int (0)), .app (.ar .add .i64) [.app (.wrap .i64) [.app (.call 2 0) [.app (.call 0 0) [.app (.call 1 0) [.v 0], .app (.call 1 0) [.v 1]], .app (.call 0 1) [.app (.call 1 0) [.v 0], .app (.call 1 0) [.v 1]], .app (.wrap .u64) [.v 2]]], .lit (.int (1))]], .app (.ar .sub .i64) [.lit (.int (0)), .app (.wrap .i64) [.app (.call 2 0) [.app (.call 0 0) [.app (.call 1 0) [.v 0], .app (.call 1 0) [.v 1]], .app (.call 0 1) [.app (.call 1 0) [.v 0], .app (.call 1 0) [.v 1]], .app (.wrap .u64) [.v 2]]]], .lit (.bool true)])))
    (.ask (.app .beq [.app (.cm .lt) [.v 0, .lit (.int (0))], .app (.cm .lt) [.v 1, .lit (.int (0))]])
     (.ret (.done [.app (.wrap .i64) [.app (.call 2 0) [.app (.call 0 0) [.app (.call 1 0) [.v 0], .app (.call 1 0) [.v 1]], .app (.call 0 1) [.app (.call 1 0) [.v 0], .app (.call 1 0) [.v 1]], .app (.wrap .u64) [.v 2]]], .app (.wrap .i64) [.app (.call 2 0) [.app (.call 0 0) [.app (.call 1 0) [.v 0], .app (.call 1 0) [.v 1]], .app (.call 0 1) [.app (.call 1 0) [.v 0], .app (.call 1 0) [.v 1]], .app (.wrap .u64) [.v 2]]], .lit (.bool true)]))
     (.ret (.done [.app (.ar .sub .i64) [.lit (.int (0)), .app (.wrap .i64) [.app (.call 2 0) [.app (.call 0 0) [.app (.call 1 0) [.v 0], .app (.call 1 0) [.v 1]], .app (.call 0 1) [.app (.call 1 0) [.v 0], .app (.call 1 0) [.v 1]], .app (.wrap .u64) [.v 2]]]], .app (.ar .sub .i64) [.lit (.int (0)), .app (.wrap .i64) [.app (.call 2 0) [.app (.call 0 0) [.app (.call 1 0) [.v 0], .app (.call 1 0) [.v 1]], .app (.call 0 1) [.app (.call 1 0) [.v 0], .app (.call 1 0) [.v 1]], .app (.wrap .u64) [.v 2]]]], .lit (.bool true)]))))))))))
def s126 : Sx.Spec := .auto c126 [s166, s175, s176] t126 (fun ds => 0 < (ds.getD 2 default).toInt ∧ (ds.getD 2 default).toInt < 9223372036854775808)
theorem t126_eq : ((fnC (PV.fast Tryz.prog) G (([s166, s175, s176] : List Sx.Spec).map (·.con)) [] 300 c126 20).prune []).toTr = t126 := by kernel_rfl
theorem s126_ok : s126.Ok Tryz.prog G := auto_ok (by simp only [List.mem_cons, List.not_mem_nil, or_false, forall_eq_or_imp, forall_eq]; exact ⟨s166_ok, s175_ok, s176_ok⟩) 300 20 t126_eq (by
  intro ds h
  simp only [t126, Tr.safe, preOf, T.eval, T.evals, pe_ar, pe_wrap, pe_mn, pe_mx, pe_cm, pe_not, pe_beq, pe_ite, pe_len, pe_slen, pe_sat, pe_call, fnOf, cm_eq, cm_ne, cm_lt, cm_le, cm_gt, cm_ge, ar_add, ar_sub, ar_mul, ar_quo, ar_rem, ar_shl, ar_shr, wrap_u64, wrap_i64, wrap_u8, D.toInt_int, D.toBool_bool, decide_eq_true_eq, decide_eq_false_iff_not]
  have r := s166_rng ((s175.fn [ds.getD 0 default]).getD 0 default) ((s175.fn [ds.getD 1 default]).getD 0 default)
  exact ⟨trivial, trivial, trivial, fun _ => trivial, fun hc => ⟨⟨⟨r.1.1, Int.not_le.1 hc⟩, Int.emod_lt_of_pos _ (by omega), r.2⟩, fun _ => trivial, fun _ => ⟨fun _ => ⟨fun _ => trivial, fun _ => trivial⟩, fun _ => ⟨fun _ => trivial, fun _ => trivial⟩⟩⟩⟩)
end Go.Proofs.YteaiikmijhikpaaGreatDoor
end
