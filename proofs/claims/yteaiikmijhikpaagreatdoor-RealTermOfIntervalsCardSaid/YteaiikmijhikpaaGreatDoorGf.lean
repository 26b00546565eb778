/- Contracts of what the law's check of a rendering reaches, each for every input that its precondition allows. -/
import Derived.Test.YteaiikmijhikpaaGreatDoorGd
import Derived.Test.YteaiikmijhikpaaGreatDoorSxC
import Derived.Test.YteaiikmijhikpaaGreatDoorGc
set_option linter.all false
section
namespace Go.Proofs.YteaiikmijhikpaaGreatDoor
open Go Go.Sx Bz
set_option maxRecDepth 100000

theorem p166 (l : List D) : s166.pre l = True := rfl
/-- compositor/interval.scaled -/
def c216 : Con := { f := 216, ps := [.at (.int .i64), .at (.int .i64)], rs := [.at (.int .i64), .at (.int .i64), .at (.bool)] }
def t216 : Lt :=
 (.ask (.app (.cm .lt) [.v 0, .lit (.int (-1099511627776))])
  (.ret (.done [.lit (.int (0)), .lit (.int (0)), .lit (.bool false)]))
  (.ask (.app (.cm .gt) [.v 0, .lit (.int (1099511627776))])
   (.ret (.done [.lit (.int (0)), .lit (.int (0)), .lit (.bool false)]))
   (.ask (.app (.cm .lt) [.v 1, .lit (.int (-1099511627776))])
    (.ret (.done [.lit (.int (0)), .lit (.int (0)), .lit (.bool false)]))
    (.ask (.app (.cm .gt) [.v 1, .lit (.int (1099511627776))])
     (.ret (.done [.lit (.int (0)), .lit (.int (0)), .lit (.bool false)]))
     (.ask (.app (.cm .eq) [.v 1, .lit (.int (0))])
      (.ret (.done [.lit (.int (0)), .lit (.int (0)), .lit (.bool false)]))
      (.ask (.app (.cm .lt) [.v 1, .lit (.int (0))])
       (.call 0 [.app (.ar .sub .i64) [.lit (.int (0)), .v 0], .lit (.int (1099511627776)), .app (.ar .sub .i64) [.lit (.int (0)), .v 1]] 3
       (.ret (.done [.v 2, .v 3, .v 4])))
       (.call 0 [.v 0, .lit (.int (1099511627776)), .v 1] 3
       (.ret (.done [.v 2, .v 3, .v 4])))))))))
def s216 : Sx.Spec := .lauto c216 [s126] 2 t216 (fun _ => True)
theorem t216_eq : ((fnC (PV.fast Tryz.prog) G (([s126] : List Sx.Spec).map (·.con)) [] 300 c216 20).prune []).toTr = t216.expand (vars 2) := by kernel_rfl
theorem s216_ok : s216.Ok Tryz.prog G := lauto_ok (by simp only [List.mem_cons, List.not_mem_nil, or_false, forall_eq_or_imp, forall_eq]; exact s126_ok) 300 20 t216_eq (by
  intro ds _
  simp only [t216, Lt.safe, preOf, Nat.reduceAdd, Lt.holds, Lt.safe, Lt.run, Leaf.at, LeafV.Ok, envOf, resD, T.eval, T.evals, pe_ar, pe_wrap, pe_mn, pe_mx, pe_cm, pe_not, pe_beq, pe_ite, pe_len, pe_slen, pe_sat, pe_xt, pe_call, fnOf, preOf, cm_eq, cm_ne, cm_lt, cm_le, cm_gt, cm_ge, ar_add, ar_sub, ar_mul, ar_quo, ar_rem, ar_shl, ar_shr, wrap_u64, wrap_i64, wrap_u8, wrap_u16, List.getD_cons_zero, List.getD_cons_succ, List.cons_append, List.nil_append, D.toInt_int, D.toBool_bool, decide_eq_true_eq, decide_eq_false_iff_not, Bool.not_eq_true, Bool.not_eq_false, pre126]
  refine ⟨fun _ => trivial, fun _ => ⟨fun _ => trivial, fun _ => ⟨fun _ => trivial, fun c1 => ⟨fun _ => trivial, fun c2 => ⟨fun _ => trivial, fun c3 => ⟨fun c4 => ⟨?_, trivial⟩, fun c4 => ⟨?_, trivial⟩⟩⟩⟩⟩⟩⟩
  · omega
  · omega)
theorem p216 (l : List D) : s216.pre l = True := rfl
/-- compositor/interval.Of -/
def c192 : Con := { f := 192, ps := [.at (.int .i64), .at (.int .i64)], rs := [.agg [.int .i64, .int .i64], .at (.bool)] }
def t192 : Lt :=
 (.call 0 [.v 0, .v 1] 3
 (.call 1 [.v 2, .v 3, .v 4] 3
 (.ret (.done [.v 5, .v 6, .v 7]))))
def s192 : Sx.Spec := .lauto c192 [s216, s169] 2 t192 (fun _ => True)
theorem t192_eq : ((fnC (PV.fast Tryz.prog) G (([s216, s169] : List Sx.Spec).map (·.con)) [] 300 c192 20).prune []).toTr = t192.expand (vars 2) := by kernel_rfl
theorem s192_ok : s192.Ok Tryz.prog G := lauto_ok (by simp only [List.mem_cons, List.not_mem_nil, or_false, forall_eq_or_imp, forall_eq]; exact ⟨s216_ok, s169_ok⟩) 300 20 t192_eq (by
  intro ds _; simp only [t192, Lt.safe, preOf, List.getD_cons_zero, List.getD_cons_succ, p216, p169, implies_true, and_self])
theorem p192 (l : List D) : s192.pre l = True := rfl
/-- compositor/real.fraction -/
def c145 : Con := { f := 145, ps := [.at (.int .u16), .at (.int .u16)], rs := [.agg [.int .i64, .int .i64]] }
def t145 : Lt :=
 (.call 0 [.app (.wrap .i64) [.v 0], .app (.wrap .i64) [.v 1]] 3
 (.ret (.done [.v 2, .v 3])))
def s145 : Sx.Spec := .lauto c145 [s192] 2 t145 (fun _ => True)
theorem t145_eq : ((fnC (PV.fast Tryz.prog) G (([s192] : List Sx.Spec).map (·.con)) [] 300 c145 20).prune []).toTr = t145.expand (vars 2) := by kernel_rfl
theorem s145_ok : s145.Ok Tryz.prog G := lauto_ok (by simp only [List.mem_cons, List.not_mem_nil, or_false, forall_eq_or_imp, forall_eq]; exact s192_ok) 300 20 t145_eq (by
  intro ds _; simp only [t145, Lt.safe, preOf, List.getD_cons_zero, List.getD_cons_succ, p192, implies_true, and_self])
theorem p145 (l : List D) : s145.pre l = True := rfl
/-- compositor/real.unitary -/
def c40 : Con := { f := 40, ps := [.agg [.int .i64, .int .i64]], rs := [.agg [.int .i64, .int .i64]] }
def t40 : Lt :=
 (.call 0 [.v 0, .v 1, .lit (.int (0)), .lit (.int (1099511627776))] 2
 (.ret (.done [.v 2, .v 3])))
def s40 : Sx.Spec := .lauto c40 [s27] 2 t40 (fun _ => True)
theorem t40_eq : ((fnC (PV.fast Tryz.prog) G (([s27] : List Sx.Spec).map (·.con)) [] 300 c40 20).prune []).toTr = t40.expand (vars 2) := by kernel_rfl
theorem s40_ok : s40.Ok Tryz.prog G := lauto_ok (by simp only [List.mem_cons, List.not_mem_nil, or_false, forall_eq_or_imp, forall_eq]; exact s27_ok) 300 20 t40_eq (by
  intro ds _; simp only [t40, Lt.safe, preOf, List.getD_cons_zero, List.getD_cons_succ, p27, implies_true, and_self])
theorem p40 (l : List D) : s40.pre l = True := rfl
/-- compositor/real.colour -/
def c146 : Con := { f := 146, ps := [.agg [.int .i64, .int .i64], .agg [.int .i64, .int .i64]], rs := [.agg [.int .i64, .int .i64]] }
def t146 : Lt :=
 (.call 0 [.v 0, .v 1, .lit (.int (0)), .app .mx [.v 3, .lit (.int (0))]] 2
 (.ret (.done [.v 4, .v 5])))
def s146 : Sx.Spec := .lauto c146 [s27] 4 t146 (fun _ => True)
theorem t146_eq : ((fnC (PV.fast Tryz.prog) G (([s27] : List Sx.Spec).map (·.con)) [] 300 c146 20).prune []).toTr = t146.expand (vars 4) := by kernel_rfl
theorem s146_ok : s146.Ok Tryz.prog G := lauto_ok (by simp only [List.mem_cons, List.not_mem_nil, or_false, forall_eq_or_imp, forall_eq]; exact s27_ok) 300 20 t146_eq (by
  intro ds _; simp only [t146, Lt.safe, preOf, List.getD_cons_zero, List.getD_cons_succ, p27, implies_true, and_self])
theorem p146 (l : List D) : s146.pre l = True := rfl
/-- compositor/real.rest -/
def c147 : Con := { f := 147, ps := [.agg [.int .i64, .int .i64]], rs := [.agg [.int .i64, .int .i64]] }
def t147 : Lt :=
 (.call 0 [.lit (.int (1099511627776)), .lit (.int (1099511627776)), .v 0, .v 1] 2
 (.ret (.done [.v 2, .v 3])))
theorem t147_eq : ((fnC (PV.fast Tryz.prog) G (([s62] : List Sx.Spec).map (·.con)) [] 300 c147 20).prune []).toTr = t147.expand (vars 2) := by kernel_rfl

def f147 (ds : List D) : List D := enc (Iv.rest (iat ds 0))
def s147 : Sx.Spec := { con := { c147 with fold := some f147 }, pre := fun ds => Iv.Vd (iat ds 0) ∧ Iv.Vd (Iv.rest (iat ds 0)), fn := f147 }
theorem s147_ok : s147.Ok Tryz.prog G := lspec_ok [s62] (by simp only [List.mem_cons, List.not_mem_nil, or_false, forall_eq_or_imp, forall_eq]; exact s62_ok) s147 300 20 (fun g hg ds _ => by simp only [s147, Option.some.injEq] at hg ⊢; rw [hg]) t147 2 t147_eq (by
  intro ds h
  obtain ⟨h1, h3⟩ := h
  have e1 : s62.fn [.int 1099511627776, .int 1099511627776, ds.getD 0 default, ds.getD 1 default] = [.int (Iv.rest (iat ds 0)).lo, .int (Iv.rest (iat ds 0)).hi] := s62_fn _ _ _ _
  simp only [t147, Nat.reduceAdd, Lt.holds, Lt.safe, Lt.run, Leaf.at, LeafV.Ok, envOf, resD, T.eval, T.evals, pe_ar, pe_wrap, pe_mn, pe_mx, pe_cm, pe_not, pe_beq, pe_ite, pe_len, pe_slen, pe_sat, pe_xt, pe_call, fnOf, preOf, cm_eq, cm_ne, cm_lt, cm_le, cm_gt, cm_ge, ar_add, ar_sub, ar_mul, ar_quo, ar_rem, ar_shl, ar_shr, wrap_u64, wrap_i64, wrap_u8, wrap_u16, List.getD_cons_zero, List.getD_cons_succ, List.cons_append, List.nil_append, D.toInt_int, D.toBool_bool, decide_eq_true_eq, decide_eq_false_iff_not, Bool.not_eq_true, Bool.not_eq_false, s62_pre, e1]
  exact ⟨⟨⟨by decide, h1⟩, h3⟩, AgreeS.refl _ _⟩)
theorem s147_fn (a b : D) : s147.fn [a, b] = [.int (Iv.rest (iv a b)).lo, .int (Iv.rest (iv a b)).hi] := rfl
theorem s147_pre (a b : D) : s147.pre [a, b] = (Iv.Vd (iv a b) ∧ Iv.Vd (Iv.rest (iv a b))) := rfl
/-- compositor/real.factors -/
def c191 : Con := { f := 191, ps := [.at (.int .i64), .agg [.int .i64, .int .i64], .agg [.int .i64, .int .i64]], rs := [.agg [.int .i64, .int .i64], .agg [.int .i64, .int .i64]] }
def t191 : Lt :=
 (.ask (.app (.cm .eq) [.v 0, .lit (.int (2))])
  (.ret (.done [.lit (.int (1099511627776)), .lit (.int (1099511627776)), .lit (.int (0)), .lit (.int (0))]))
  (.ask (.app (.cm .eq) [.v 0, .lit (.int (3))])
   (.ret (.done [.lit (.int (0)), .lit (.int (0)), .lit (.int (1099511627776)), .lit (.int (1099511627776))]))
   (.ask (.app (.cm .eq) [.v 0, .lit (.int (4))])
    (.call 0 [.v 1, .v 2] 2
    (.ret (.done [.lit (.int (1099511627776)), .lit (.int (1099511627776)), .v 5, .v 6])))
    (.ask (.app (.cm .eq) [.v 0, .lit (.int (5))])
     (.call 0 [.v 3, .v 4] 2
     (.ret (.done [.v 5, .v 6, .lit (.int (1099511627776)), .lit (.int (1099511627776))])))
     (.ask (.app (.cm .eq) [.v 0, .lit (.int (6))])
      (.ret (.done [.v 3, .v 4, .lit (.int (0)), .lit (.int (0))]))
      (.ask (.app (.cm .eq) [.v 0, .lit (.int (7))])
       (.ret (.done [.lit (.int (0)), .lit (.int (0)), .v 1, .v 2]))
       (.ask (.app (.cm .eq) [.v 0, .lit (.int (8))])
        (.call 0 [.v 3, .v 4] 2
        (.ret (.done [.v 5, .v 6, .lit (.int (0)), .lit (.int (0))])))
        (.ask (.app (.cm .eq) [.v 0, .lit (.int (9))])
         (.call 0 [.v 1, .v 2] 2
         (.ret (.done [.lit (.int (0)), .lit (.int (0)), .v 5, .v 6])))
         (.ask (.app (.cm .eq) [.v 0, .lit (.int (10))])
          (.call 0 [.v 1, .v 2] 2
          (.ret (.done [.v 3, .v 4, .v 5, .v 6])))
          (.ask (.app (.cm .eq) [.v 0, .lit (.int (11))])
           (.call 0 [.v 3, .v 4] 2
           (.ret (.done [.v 5, .v 6, .v 1, .v 2])))
           (.ask (.app (.cm .eq) [.v 0, .lit (.int (12))])
            (.call 0 [.v 3, .v 4] 2
            (.call 0 [.v 1, .v 2] 2
            (.ret (.done [.v 5, .v 6, .v 7, .v 8]))))
            (.ret (.done [.lit (.int (0)), .lit (.int (0)), .lit (.int (0)), .lit (.int (0))])))))))))))))
def s191 : Sx.Spec := .lauto c191 [s147] 5 t191 (fun ds => t191.safe (fnOf [s147]) (preOf [s147]) (envOf 5 ds))
theorem t191_eq : ((fnC (PV.fast Tryz.prog) G (([s147] : List Sx.Spec).map (·.con)) [] 300 c191 20).prune []).toTr = t191.expand (vars 5) := by kernel_rfl
theorem s191_ok : s191.Ok Tryz.prog G := lauto_ok (by simp only [List.mem_cons, List.not_mem_nil, or_false, forall_eq_or_imp, forall_eq]; exact s147_ok) 300 20 t191_eq (by
  exact fun ds h => h)
/-- compositor/real.alpha -/
def c190 : Con := { f := 190, ps := [.at (.int .i64), .agg [.int .i64, .int .i64], .agg [.int .i64, .int .i64]], rs := [.agg [.int .i64, .int .i64]] }
def t190 : Lt :=
 (.call 0 [.v 0, .v 1, .v 2, .v 3, .v 4] 4
 (.call 1 [.v 5, .v 6, .v 1, .v 2] 2
 (.call 1 [.v 7, .v 8, .v 3, .v 4] 2
 (.call 2 [.v 9, .v 10, .v 11, .v 12] 2
 (.call 3 [.v 13, .v 14] 2
 (.ret (.done [.v 15, .v 16])))))))
def s190 : Sx.Spec := .lauto c190 [s191, s29, s61, s40] 5 t190 (fun ds => t190.safe (fnOf [s191, s29, s61, s40]) (preOf [s191, s29, s61, s40]) (envOf 5 ds))
theorem t190_eq : ((fnC (PV.fast Tryz.prog) G (([s191, s29, s61, s40] : List Sx.Spec).map (·.con)) [] 300 c190 20).prune []).toTr = t190.expand (vars 5) := by kernel_rfl
theorem s190_ok : s190.Ok Tryz.prog G := lauto_ok (by simp only [List.mem_cons, List.not_mem_nil, or_false, forall_eq_or_imp, forall_eq]; exact ⟨s191_ok, s29_ok, s61_ok, s40_ok⟩) 300 20 t190_eq (by
  exact fun ds h => h)
/-- compositor/real.blended -/
def c189 : Con := { f := 189, ps := [.at (.int .i64), .agg [.int .i64, .int .i64], .agg [.int .i64, .int .i64], .agg [.int .i64, .int .i64], .agg [.int .i64, .int .i64]], rs := [.agg [.int .i64, .int .i64]] }
def t189 : Lt :=
 (.call 0 [.v 0, .v 1, .v 2, .v 3, .v 4, .v 5, .v 6, .v 7, .v 8] 3
 (.call 3 [.v 7, .v 8] 2
 (.call 1 [.v 12, .v 13, .v 1, .v 2] 2
 (.call 2 [.v 14, .v 15, .v 9, .v 10] 2
 (.ret (.done [.v 16, .v 17]))))))
def s189 : Sx.Spec := .lauto c189 [s11, s29, s61, s147] 9 t189 (fun ds => t189.safe (fnOf [s11, s29, s61, s147]) (preOf [s11, s29, s61, s147]) (envOf 9 ds))
theorem t189_eq : ((fnC (PV.fast Tryz.prog) G (([s11, s29, s61, s147] : List Sx.Spec).map (·.con)) [] 300 c189 20).prune []).toTr = t189.expand (vars 9) := by kernel_rfl
theorem s189_ok : s189.Ok Tryz.prog G := lauto_ok (by simp only [List.mem_cons, List.not_mem_nil, or_false, forall_eq_or_imp, forall_eq]; exact ⟨s11_ok, s29_ok, s61_ok, s147_ok⟩) 300 20 t189_eq (by
  exact fun ds h => h)
/-- compositor/compositorref28.size -/
def c127 : Con := { f := 127, ps := [.at (.int .i64)], rs := [.at (.int .u64)] }
def t127 : Lt :=
 (.ask (.app (.cm .lt) [.v 0, .lit (.int (0))])
  (.ret (.done [.app (.ar .add .u64) [.app (.wrap .u64) [.app (.ar .sub .i64) [.lit (.int (0)), .app (.ar .add .i64) [.v 0, .lit (.int (1))]]], .lit (.int (1))]]))
  (.ret (.done [.app (.wrap .u64) [.v 0]])))
def s127 : Sx.Spec := .lauto c127 [] 1 t127 (fun _ => True)
theorem t127_eq : ((fnC (PV.fast Tryz.prog) G (([] : List Sx.Spec).map (·.con)) [] 300 c127 20).prune []).toTr = t127.expand (vars 1) := by kernel_rfl
theorem s127_ok : s127.Ok Tryz.prog G := lauto_ok (by simp) 300 20 t127_eq (by
  intro ds _; simp only [t127, Lt.safe, preOf, List.getD_cons_zero, List.getD_cons_succ, implies_true, and_self])
theorem p127 (l : List D) : s127.pre l = True := rfl
/-- compositor/compositorref28.below -/
def c74 : Con := { f := 74, ps := [.at (.int .i64), .at (.int .i64), .at (.int .i64)], rs := [.at (.bool)] }
def t74 : Lt :=
 (.ask (.app .beq [.app (.cm .lt) [.v 0, .lit (.int (0))], .app (.cm .lt) [.v 1, .lit (.int (0))]])
  (.call 1 [.v 0] 1
  (.call 0 [.v 3, .app (.wrap .u64) [.v 2]] 2
  (.call 1 [.v 1] 1
  (.call 0 [.v 6, .lit (.int (1099511627776))] 2
  (.ask (.app (.cm .eq) [.v 4, .v 7])
   (.ask (.app (.cm .eq) [.v 5, .v 8])
    (.ask (.app (.cm .lt) [.v 0, .lit (.int (0))])
     (.ret (.done [.lit (.bool true)]))
     (.ret (.done [.lit (.bool true)])))
    (.ask (.app (.cm .lt) [.v 4, .v 7])
     (.ask (.app (.cm .lt) [.v 0, .lit (.int (0))])
      (.ret (.done [.lit (.bool false)]))
      (.ret (.done [.lit (.bool true)])))
     (.ask (.app (.cm .lt) [.v 5, .v 8])
      (.ask (.app (.cm .lt) [.v 0, .lit (.int (0))])
       (.ret (.done [.lit (.bool false)]))
       (.ret (.done [.lit (.bool true)])))
      (.ask (.app (.cm .lt) [.v 0, .lit (.int (0))])
       (.ret (.done [.lit (.bool true)]))
       (.ret (.done [.lit (.bool false)]))))))
   (.ask (.app (.cm .lt) [.v 4, .v 7])
    (.ask (.app (.cm .lt) [.v 0, .lit (.int (0))])
     (.ret (.done [.lit (.bool false)]))
     (.ret (.done [.lit (.bool true)])))
    (.ask (.app (.cm .lt) [.v 0, .lit (.int (0))])
     (.ret (.done [.lit (.bool true)]))
     (.ret (.done [.lit (.bool false)])))))))))
  (.ret (.done [.app (.cm .lt) [.v 0, .lit (.int (0))]])))
def s74 : Sx.Spec := .lauto c74 [s166, s127] 3 t74 (fun _ => True)
theorem t74_eq : ((fnC (PV.fast Tryz.prog) G (([s166, s127] : List Sx.Spec).map (·.con)) [] 300 c74 20).prune []).toTr = t74.expand (vars 3) := by kernel_rfl
theorem s74_ok : s74.Ok Tryz.prog G := lauto_ok (by simp only [List.mem_cons, List.not_mem_nil, or_false, forall_eq_or_imp, forall_eq]; exact ⟨s166_ok, s127_ok⟩) 300 20 t74_eq (by
  intro ds _; simp only [t74, Lt.safe, preOf, List.getD_cons_zero, List.getD_cons_succ, p166, p127, implies_true, and_self])
theorem p74 (l : List D) : s74.pre l = True := rfl
theorem p12 (l : List D) : s12.pre l = True := rfl
/-- compositor/compositorref28.Contains -/
def c30 : Con := { f := 30, ps := [.agg [.int .i64, .int .i64], .at (.int .i64), .at (.int .i64)], rs := [.at (.bool)] }
def t30 : Lt :=
 (.call 0 [.v 0, .v 1] 1
 (.ask (.v 4)
  (.ask (.app (.cm .eq) [.v 3, .lit (.int (0))])
   (.ret (.done [.lit (.bool false)]))
   (.ask (.app (.cm .lt) [.v 2, .lit (.int (-1099511627776))])
    (.ret (.done [.lit (.bool false)]))
    (.ask (.app (.cm .gt) [.v 2, .lit (.int (1099511627776))])
     (.ret (.done [.lit (.bool false)]))
     (.ask (.app (.cm .lt) [.v 3, .lit (.int (-1099511627776))])
      (.ret (.done [.lit (.bool false)]))
      (.ask (.app (.cm .gt) [.v 3, .lit (.int (1099511627776))])
       (.ret (.done [.lit (.bool false)]))
       (.ask (.app (.cm .lt) [.v 3, .lit (.int (0))])
        (.call 1 [.v 0, .app (.ar .sub .i64) [.lit (.int (0)), .v 2], .app (.ar .sub .i64) [.lit (.int (0)), .v 3]] 1
        (.ask (.v 5)
         (.call 1 [.app (.ar .sub .i64) [.lit (.int (0)), .v 1], .app (.ar .sub .i64) [.lit (.int (0)), .app (.ar .sub .i64) [.lit (.int (0)), .v 2]], .app (.ar .sub .i64) [.lit (.int (0)), .v 3]] 1
         (.ret (.done [.v 6])))
         (.ret (.done [.lit (.bool false)]))))
        (.call 1 [.v 0, .v 2, .v 3] 1
        (.ask (.v 5)
         (.call 1 [.app (.ar .sub .i64) [.lit (.int (0)), .v 1], .app (.ar .sub .i64) [.lit (.int (0)), .v 2], .v 3] 1
         (.ret (.done [.v 6])))
         (.ret (.done [.lit (.bool false)]))))))))))
  (.ret (.done [.lit (.bool false)]))))
def s30 : Sx.Spec := .lauto c30 [s12, s74] 4 t30 (fun _ => True)
theorem t30_eq : ((fnC (PV.fast Tryz.prog) G (([s12, s74] : List Sx.Spec).map (·.con)) [] 300 c30 20).prune []).toTr = t30.expand (vars 4) := by kernel_rfl
theorem s30_ok : s30.Ok Tryz.prog G := lauto_ok (by simp only [List.mem_cons, List.not_mem_nil, or_false, forall_eq_or_imp, forall_eq]; exact ⟨s12_ok, s74_ok⟩) 300 20 t30_eq (by
  intro ds _; simp only [t30, Lt.safe, preOf, List.getD_cons_zero, List.getD_cons_succ, p12, p74, implies_true, and_self])
theorem p30 (l : List D) : s30.pre l = True := rfl
end Go.Proofs.YteaiikmijhikpaaGreatDoor
end
section
namespace Go.Proofs.YteaiikmijhikpaaGreatDoor
open Go Go.Sx Bz
set_option maxRecDepth 100000
def d11 (l : List D) : Decidable (s11.pre l) := isTrue trivial
def d40 (l : List D) : Decidable (s40.pre l) := isTrue trivial
def d145 (l : List D) : Decidable (s145.pre l) := isTrue trivial
def d146 (l : List D) : Decidable (s146.pre l) := isTrue trivial
def d30 (l : List D) : Decidable (s30.pre l) := isTrue trivial
def d29 (l : List D) : Decidable (s29.pre l) := inferInstanceAs (Decidable ((Iv.Vd (iat l 0) ∧ Iv.Vd (iat l 2)) ∧ Iv.Vd (Iv.mul (iat l 0) (iat l 2))))
def d61 (l : List D) : Decidable (s61.pre l) := inferInstanceAs (Decidable ((Iv.Vd (iat l 0) ∧ Iv.Vd (iat l 2)) ∧ Iv.Vd (Iv.add (iat l 0) (iat l 2))))
def d62 (l : List D) : Decidable (s62.pre l) := inferInstanceAs (Decidable ((Iv.Vd (iat l 0) ∧ Iv.Vd (iat l 2)) ∧ Iv.Vd (Iv.sub (iat l 0) (iat l 2))))
def d147 (l : List D) : Decidable (s147.pre l) := inferInstanceAs (Decidable (Iv.Vd (iat l 0) ∧ Iv.Vd (Iv.rest (iat l 0))))
def k191 : DecK [s147] := decCons d147 (decNil)
def d191 (l : List D) : Decidable (s191.pre l) := t191.decSafe (fnOf [s147]) (preOf [s147]) k191 (envOf 5 l)
def k190 : DecK [s191, s29, s61, s40] := decCons d191 (decCons d29 (decCons d61 (decCons d40 (decNil))))
def d190 (l : List D) : Decidable (s190.pre l) := t190.decSafe (fnOf [s191, s29, s61, s40]) (preOf [s191, s29, s61, s40]) k190 (envOf 5 l)
def k189 : DecK [s11, s29, s61, s147] := decCons d11 (decCons d29 (decCons d61 (decCons d147 (decNil))))
def d189 (l : List D) : Decidable (s189.pre l) := t189.decSafe (fnOf [s11, s29, s61, s147]) (preOf [s11, s29, s61, s147]) k189 (envOf 9 l)
def k13 : DecK [s11, s29, s61, s62, s40, s145, s146, s147, s189, s190, s191, s30] := decCons d11 (decCons d29 (decCons d61 (decCons d62 (decCons d40 (decCons d145 (decCons d146 (decCons d147 (decCons d189 (decCons d190 (decCons d191 (decCons d30 (decNil))))))))))))
/-- compositor/compositorlaw29.awake -/
def c13 : Con := { f := 13, ps := [], rs := [.at (.bool)] }
def t13 : Lt :=
 (.call 0 [.lit (.int (2)), .lit (.int (549755813888)), .lit (.int (549755813888)), .lit (.int (549755813888)), .lit (.int (549755813888)), .lit (.int (549755813888)), .lit (.int (549755813888)), .lit (.int (549755813888)), .lit (.int (549755813888))] 0
 (.call 5 [.lit (.int (255)), .lit (.int (255))] 0
 (.call 5 [.lit (.int (255)), .lit (.int (255))] 0
 (.call 5 [.lit (.int (0)), .lit (.int (255))] 0
 (.call 5 [.lit (.int (0)), .lit (.int (255))] 0
 (.call 5 [.lit (.int (0)), .lit (.int (255))] 0
 (.call 5 [.lit (.int (255)), .lit (.int (255))] 0
 (.call 1 [.lit (.int (0)), .lit (.int (0)), .lit (.int (1099511627776)), .lit (.int (1099511627776))] 0
 (.call 1 [.lit (.int (0)), .lit (.int (0)), .lit (.int (1099511627776)), .lit (.int (1099511627776))] 0
 (.call 1 [.lit (.int (0)), .lit (.int (0)), .lit (.int (1099511627776)), .lit (.int (1099511627776))] 0
 (.call 1 [.lit (.int (1099511627776)), .lit (.int (1099511627776)), .lit (.int (1099511627776)), .lit (.int (1099511627776))] 0
 (.call 1 [.lit (.int (1099511627776)), .lit (.int (1099511627776)), .lit (.int (1099511627776)), .lit (.int (1099511627776))] 0
 (.call 9 [.lit (.int (4)), .lit (.int (1099511627776)), .lit (.int (1099511627776)), .lit (.int (0)), .lit (.int (0))] 0
 (.call 7 [.lit (.int (1099511627776)), .lit (.int (1099511627776))] 0
 (.call 1 [.lit (.int (0)), .lit (.int (0)), .lit (.int (0)), .lit (.int (0))] 0
 (.call 2 [.lit (.int (1099511627776)), .lit (.int (1099511627776)), .lit (.int (0)), .lit (.int (0))] 0
 (.call 4 [.lit (.int (1099511627776)), .lit (.int (1099511627776))] 0
 (.call 9 [.lit (.int (4)), .lit (.int (1099511627776)), .lit (.int (1099511627776)), .lit (.int (0)), .lit (.int (0))] 0
 (.call 10 [.lit (.int (4)), .lit (.int (1099511627776)), .lit (.int (1099511627776)), .lit (.int (0)), .lit (.int (0))] 0
 (.call 8 [.lit (.int (1)), .lit (.int (0)), .lit (.int (0)), .lit (.int (1099511627776)), .lit (.int (1099511627776)), .lit (.int (0)), .lit (.int (0)), .lit (.int (0)), .lit (.int (0))] 0
 (.call 1 [.lit (.int (1099511627776)), .lit (.int (1099511627776)), .lit (.int (0)), .lit (.int (0))] 0
 (.call 1 [.lit (.int (0)), .lit (.int (0)), .lit (.int (0)), .lit (.int (0))] 0
 (.call 2 [.lit (.int (0)), .lit (.int (0)), .lit (.int (0)), .lit (.int (0))] 0
 (.call 6 [.lit (.int (0)), .lit (.int (0)), .lit (.int (1099511627776)), .lit (.int (1099511627776))] 0
 (.call 8 [.lit (.int (1)), .lit (.int (0)), .lit (.int (0)), .lit (.int (1099511627776)), .lit (.int (1099511627776)), .lit (.int (0)), .lit (.int (0)), .lit (.int (0)), .lit (.int (0))] 0
 (.call 1 [.lit (.int (1099511627776)), .lit (.int (1099511627776)), .lit (.int (0)), .lit (.int (0))] 0
 (.call 1 [.lit (.int (0)), .lit (.int (0)), .lit (.int (0)), .lit (.int (0))] 0
 (.call 2 [.lit (.int (0)), .lit (.int (0)), .lit (.int (0)), .lit (.int (0))] 0
 (.call 6 [.lit (.int (0)), .lit (.int (0)), .lit (.int (1099511627776)), .lit (.int (1099511627776))] 0
 (.call 8 [.lit (.int (1)), .lit (.int (0)), .lit (.int (0)), .lit (.int (1099511627776)), .lit (.int (1099511627776)), .lit (.int (0)), .lit (.int (0)), .lit (.int (0)), .lit (.int (0))] 0
 (.call 1 [.lit (.int (1099511627776)), .lit (.int (1099511627776)), .lit (.int (0)), .lit (.int (0))] 0
 (.call 1 [.lit (.int (0)), .lit (.int (0)), .lit (.int (0)), .lit (.int (0))] 0
 (.call 2 [.lit (.int (0)), .lit (.int (0)), .lit (.int (0)), .lit (.int (0))] 0
 (.call 6 [.lit (.int (0)), .lit (.int (0)), .lit (.int (1099511627776)), .lit (.int (1099511627776))] 0
 (.call 7 [.lit (.int (1099511627776)), .lit (.int (1099511627776))] 0
 (.call 1 [.lit (.int (0)), .lit (.int (0)), .lit (.int (0)), .lit (.int (0))] 0
 (.call 3 [.lit (.int (0)), .lit (.int (0)), .lit (.int (0)), .lit (.int (0))] 0
 (.call 6 [.lit (.int (0)), .lit (.int (0)), .lit (.int (1099511627776)), .lit (.int (1099511627776))] 0
 (.call 7 [.lit (.int (1099511627776)), .lit (.int (1099511627776))] 0
 (.call 1 [.lit (.int (0)), .lit (.int (0)), .lit (.int (0)), .lit (.int (0))] 0
 (.call 3 [.lit (.int (0)), .lit (.int (0)), .lit (.int (0)), .lit (.int (0))] 0
 (.call 6 [.lit (.int (0)), .lit (.int (0)), .lit (.int (1099511627776)), .lit (.int (1099511627776))] 0
 (.call 7 [.lit (.int (1099511627776)), .lit (.int (1099511627776))] 0
 (.call 1 [.lit (.int (0)), .lit (.int (0)), .lit (.int (0)), .lit (.int (0))] 0
 (.call 3 [.lit (.int (0)), .lit (.int (0)), .lit (.int (0)), .lit (.int (0))] 0
 (.call 6 [.lit (.int (0)), .lit (.int (0)), .lit (.int (1099511627776)), .lit (.int (1099511627776))] 0
 (.call 4 [.lit (.int (0)), .lit (.int (0))] 0
 (.call 4 [.lit (.int (0)), .lit (.int (0))] 0
 (.call 4 [.lit (.int (0)), .lit (.int (0))] 0
 (.call 4 [.lit (.int (1099511627776)), .lit (.int (1099511627776))] 0
 (.call 4 [.lit (.int (1099511627776)), .lit (.int (1099511627776))] 0
 (.call 11 [.lit (.int (274877906944)), .lit (.int (274877906944)), .lit (.int (1)), .lit (.int (4))] 0
 (.call 11 [.lit (.int (1099511627776)), .lit (.int (1099511627776)), .lit (.int (1)), .lit (.int (1))] 0
 (.call 11 [.lit (.int (0)), .lit (.int (0)), .lit (.int (0)), .lit (.int (1))] 0
 (.ret (.done [.lit (.bool true)]))))))))))))))))))))))))))))))))))))))))))))))))))))))))
theorem t13_safe : t13.safe (fnOf [s11, s29, s61, s62, s40, s145, s146, s147, s189, s190, s191, s30]) (preOf [s11, s29, s61, s62, s40, s145, s146, s147, s189, s190, s191, s30]) [] := @of_decide_eq_true _ (t13.decSafe (fnOf [s11, s29, s61, s62, s40, s145, s146, s147, s189, s190, s191, s30]) (preOf [s11, s29, s61, s62, s40, s145, s146, s147, s189, s190, s191, s30]) k13 []) (by kernel_rfl)
theorem t13_eq : ((fnC (PV.fast Tryz.prog) G (([s11, s29, s61, s62, s40, s145, s146, s147, s189, s190, s191, s30] : List Sx.Spec).map (·.con)) [] 100000 c13 20).prune []).toTr = t13.expand (vars 0) := by kernel_rfl
theorem t13_run : t13.run (fnOf [s11, s29, s61, s62, s40, s145, s146, s147, s189, s190, s191, s30]) [] = [.bool true] := by kernel_rfl
def s13 : Sx.Spec := { con := c13, pre := fun _ => True, fn := fun _ => [.bool true] }
theorem s13_ok : s13.Ok Tryz.prog G := lspec_ok [s11, s29, s61, s62, s40, s145, s146, s147, s189, s190, s191, s30] (by simp only [List.mem_cons, List.not_mem_nil, or_false, forall_eq_or_imp, forall_eq]; exact ⟨s11_ok, s29_ok, s61_ok, s62_ok, s40_ok, s145_ok, s146_ok, s147_ok, s189_ok, s190_ok, s191_ok, s30_ok⟩) s13 100000 20 (fun _ h => by cases h) t13 0 t13_eq (by
  intro ds _
  have h := Lt.holds_run (V := PV.fast Tryz.prog) (c := c13) (Ts := []) (m := fun _ => True) t13_safe
  rw [t13_run] at h
  exact h)
theorem p13 (l : List D) : s13.pre l = True := rfl
theorem s13_val : s13.fn [] = [.bool true] := rfl
end Go.Proofs.YteaiikmijhikpaaGreatDoor
end
section
namespace Go.Proofs.YteaiikmijhikpaaGreatDoor
open Go Go.Sx Bz
set_option maxRecDepth 100000

theorem s60_pre (a b c d e f : D) : s60.pre [a, b, c, d, e, f] = (((0 ≤ a.toInt ∧ a.toInt < 18446744073709551616) ∧ (0 ≤ b.toInt ∧ b.toInt < 18446744073709551616) ∧ (0 ≤ c.toInt ∧ c.toInt < 18446744073709551616) ∧ (0 ≤ d.toInt ∧ d.toInt < 18446744073709551616) ∧ (0 ≤ e.toInt ∧ e.toInt < 18446744073709551616) ∧ (0 ≤ f.toInt ∧ f.toInt < 18446744073709551616) ∧ True) ∧ a.toInt < 4294967296 ∧ (c.toInt < 70368744177664 ∧ d.toInt < 8589934592) ∧ 1 ≤ e.toInt) := rfl

/-- What the exact terms of samples up to 4096 are bound by. -/
theorem bl_rng {m s a d b : Int} (h1 : 0 ≤ s ∧ s ≤ a ∧ a ≤ 4096) (h2 : 0 ≤ d ∧ d ≤ b ∧ b ≤ 4096) :
    (0 ≤ (blZ m s a d b).P ∧ (blZ m s a d b).P ≤ 1152921504606846976) ∧ (0 ≤ (blZ m s a d b).Q ∧ (blZ m s a d b).Q ≤ 4096) ∧ (0 ≤ (blZ m s a d b).R ∧ (blZ m s a d b).R ≤ 16777216) ∧ (1 ≤ (blZ m s a d b).Den ∧ (blZ m s a d b).Den ≤ 16777216) := by
  have q1 : Sm s a := ⟨h1.1, h1.2.1, by omega⟩
  have q2 : Sm d b := ⟨h2.1, h2.2.1, by omega⟩
  obtain ⟨p1, p2, p3, p4, p5, p6, p7, p8⟩ := prods q1 q2
  have r1 := hard_rng q1 q2
  have r2 := hard_rng q2 q1
  have c0 : d * s = s * d := Int.mul_comm _ _
  have c1 : b * a = a * b := Int.mul_comm _ _
  have p9 : 0 ≤ a * b ∧ a * b ≤ 16777216 := mul_rng (by omega) h1.2.2 (by omega) h2.2.2
  have w : ∀ x : Int, 0 ≤ x → x ≤ 33554432 → (0 ≤ (whole x).P ∧ (whole x).P ≤ 1152921504606846976) ∧ (0 ≤ (whole x).Q ∧ (whole x).Q ≤ 4096) ∧ (0 ≤ (whole x).R ∧ (whole x).R ≤ 16777216) ∧ (1 ≤ (whole x).Den ∧ (whole x).Den ≤ 16777216) := fun x h0 hx => by
    simp only [whole]; omega
  unfold blZ
  split
  · exact w _ (by omega) (by omega)
  split
  · exact w _ (by omega) (by omega)
  split
  · exact w _ (by omega) (by omega)
  split
  · exact w _ (by omega) (by omega)
  split
  · exact w _ (by omega) (by omega)
  split
  · exact w _ (by omega) (by omega)
  split
  · exact w _ (by omega) (by omega)
  split
  · unfold softZ
    split
    · exact w _ (by omega) (by omega)
    rename_i hb0
    have k1 : 1 ≤ b * b ∧ b * b ≤ 16777216 := ⟨by have := Int.mul_le_mul (show 1 ≤ b by omega) (show 1 ≤ b by omega) (by omega) (by omega); omega, (mul_rng (by omega) h2.2.2 (by omega) h2.2.2).2⟩
    have k2 : 0 ≤ d * a ∧ d * a ≤ 16777216 := mul_rng (A := 4096) (B := 4096) h2.1 (by omega) (by omega) h1.2.2
    have k3 : 0 ≤ d * b ∧ d * b ≤ 16777216 := mul_rng (A := 4096) (B := 4096) h2.1 (by omega) (by omega) h2.2.2
    split
    · rename_i h
      have k4 := mul_rng k2.1 k2.2 (show 0 ≤ b by omega) h2.2.2
      have k5 := mul_rng (show 0 ≤ a - 2 * s by omega) (show a - 2 * s ≤ a by omega) (show 0 ≤ b - d by omega) (show b - d ≤ b by omega)
      have k6 := mul_rng (A := a * b) k5.1 k5.2 h2.1 (Int.le_refl d)
      have e1 : (a - 2 * s) * d * (b - d) = (a - 2 * s) * (b - d) * d := Int.mul_right_comm _ _ _
      have e2 : d * a * b = a * b * d := by rw [Int.mul_comm d a, Int.mul_right_comm]
      simp only
      omega
    · rename_i h
      split
      · rename_i h'
        have k4 := mul_rng k2.1 k2.2 (show 0 ≤ b * b by omega) k1.2
        have k5 := mul_rng (show 0 ≤ 2 * s - a by omega) (show 2 * s - a ≤ 4096 by omega) h2.1 (show d ≤ 4096 by omega)
        have k6 := mul_rng h2.1 (show d ≤ 4096 by omega) h2.1 (show d ≤ 4096 by omega)
        have k7 : 4 * d * b ≤ b * b := Int.mul_le_mul_of_nonneg_right h' (by omega)
        have e1 : 16 * d * d = 16 * (d * d) := Int.mul_assoc _ _ _
        have e2 : 3 * b * b = 3 * (b * b) := Int.mul_assoc _ _ _
        have e3 : 12 * d * b = 12 * (d * b) := Int.mul_assoc _ _ _
        have e4 : 4 * d * b = 4 * (d * b) := Int.mul_assoc _ _ _
        have k8 := mul_rng (A := 16777216) (B := 318767104) k5.1 k5.2 (show 0 ≤ 16 * d * d + 3 * b * b - 12 * d * b by omega) (by omega)
        simp only
        omega
      · have k4 := mul_rng (show 0 ≤ 2 * d by omega) (show 2 * d ≤ 8192 by omega) (show 0 ≤ a - s by omega) (show a - s ≤ 4096 by omega)
        simp only
        omega
  split
  · exact w _ (by omega) (by omega)
  · have e : 2 * s * d = 2 * (s * d) := Int.mul_assoc _ _ _
    exact w _ (by omega) (by omega)
theorem p2a : (2 : Int) ^ min (Int.toNat 2) IntKind.u64.bits = 4 := rfl
theorem p10a : (2 : Int) ^ min (Int.toNat 10) IntKind.u64.bits = 1024 := rfl
theorem p14a : (2 : Int) ^ min (Int.toNat 14) IntKind.u64.bits = 16384 := rfl
/-- compositor/compositorlaw29.between -/
def c23 : Con := { f := 23, ps := [.agg [.int .i64, .int .i64], .agg [.int .u64, .int .u64, .int .u64, .int .u64, .int .u64], .at (.int .u64)], rs := [.at (.bool)] }
def t23 : Lt :=
 (.call 0 [.v 2, .v 3, .lit (.int (16384))] 3
 (.need (.app (.cm .ge) [.v 7, .lit (.int (0))])
 (.call 1 [.v 8, .v 9, .app (.ar .shl .u64) [.v 4, .lit (.int (14))], .v 5, .v 6, .app (.ar .shr .u64) [.app (.wrap .u64) [.app .mx [.v 0, .lit (.int (0))]], .v 7]] 2
 (.need (.app (.cm .ge) [.v 7, .lit (.int (0))])
 (.need (.app (.cm .ge) [.v 7, .lit (.int (0))])
 (.call 1 [.v 8, .v 9, .app (.ar .shl .u64) [.v 4, .lit (.int (14))], .v 5, .v 6, .app (.ar .shr .u64) [.app (.ar .sub .u64) [.app (.ar .add .u64) [.app (.wrap .u64) [.app .mx [.v 1, .lit (.int (0))]], .app (.ar .shl .u64) [.lit (.int (1)), .v 7]], .lit (.int (1))], .v 7]] 2
 (.ask (.v 12)
  (.ask (.v 14)
   (.ask (.app (.cm .ge) [.v 11, .lit (.int (0))])
    (.ret (.done [.app (.cm .le) [.v 13, .lit (.int (0))]]))
    (.ret (.done [.lit (.bool false)])))
   (.ret (.done [.lit (.bool false)])))
  (.ret (.done [.lit (.bool false)])))))))))
theorem t23_eq : ((fnC (PV.fast Tryz.prog) G (([s59, s60] : List Sx.Spec).map (·.con)) [] 300 c23 20).prune []).toTr = t23.expand (vars 8) := by kernel_rfl

def btw (lo hi P Q R Den w : Int) : Bool := decide (0 ≤ cx (P * 16384) (Q * 16384) R Den (max lo 0 / w)) && decide (cx (P * 16384) (Q * 16384) R Den ((max hi 0 + w - 1) / w) ≤ 0)
def wsh (n : Int) : Int := if n = 2 then 4 else 1024
def s23 : Sx.Spec := { con := c23, pre := fun ds => ((ds.getD 0 default).toInt ≤ 17592186044416 ∧ (ds.getD 1 default).toInt ≤ 17592186044416) ∧ (0 ≤ (ds.getD 2 default).toInt ∧ (ds.getD 2 default).toInt < 262144) ∧ (0 ≤ (ds.getD 3 default).toInt ∧ (ds.getD 3 default).toInt < 18446744073709551616) ∧ (0 ≤ (ds.getD 4 default).toInt ∧ (ds.getD 4 default).toInt ≤ 262143) ∧ (0 ≤ (ds.getD 5 default).toInt ∧ (ds.getD 5 default).toInt < 8589934592) ∧ (1 ≤ (ds.getD 6 default).toInt ∧ (ds.getD 6 default).toInt < 18446744073709551616) ∧ ((ds.getD 7 default).toInt = 2 ∨ (ds.getD 7 default).toInt = 10), fn := fun ds => [.bool (btw (ds.getD 0 default).toInt (ds.getD 1 default).toInt (wof (ds.getD 2 default) (ds.getD 3 default)) (ds.getD 4 default).toInt (ds.getD 5 default).toInt (ds.getD 6 default).toInt (wsh (ds.getD 7 default).toInt))] }
theorem s23_ok : s23.Ok Tryz.prog G := lspec_ok [s59, s60] (by simp only [List.mem_cons, List.not_mem_nil, or_false, forall_eq_or_imp, forall_eq]; exact ⟨s59_ok, s60_ok⟩) s23 300 20 (fun _ h => by cases h) t23 8 t23_eq (by
  intro ds h
  obtain ⟨⟨hlo, hhi⟩, ⟨a0, a1⟩, ⟨b0, b1⟩, ⟨q0, q1⟩, ⟨r0, r1⟩, ⟨d0, d1⟩, hs⟩ := h
  have hP : wof (ds.getD 2 default) (ds.getD 3 default) = (ds.getD 2 default).toInt * 18446744073709551616 + (ds.getD 3 default).toInt := rfl
  have e1 : s59.fn [ds.getD 2 default, ds.getD 3 default, .int 16384] = [.int (wof (ds.getD 2 default) (ds.getD 3 default) * 16384 / 18446744073709551616), .int (wof (ds.getD 2 default) (ds.getD 3 default) * 16384 % 18446744073709551616), .bool true] := s59_yes (by rw [hP, D.toInt_int]; omega)
  have hg : s23.fn ds = [.bool (btw (ds.getD 0 default).toInt (ds.getD 1 default).toInt (wof (ds.getD 2 default) (ds.getD 3 default)) (ds.getD 4 default).toInt (ds.getD 5 default).toInt (ds.getD 6 default).toInt (wsh (ds.getD 7 default).toInt))] := rfl
  rw [hg]
  generalize hPg : wof (ds.getD 2 default) (ds.getD 3 default) = P at *
  have hw : ∀ x : Int, 0 ≤ x → wof (.int (x / 18446744073709551616)) (.int (x % 18446744073709551616)) = x := fun x hx => by unfold wof; rw [D.toInt_int, D.toInt_int]; omega
  have hw1 := hw (P * 16384) (by omega)
  simp only [t23, Nat.reduceAdd, Lt.holds, Lt.safe, Lt.run, Leaf.at, LeafV.Ok, envOf, resD, T.eval, T.evals, pe_ar, pe_wrap, pe_mn, pe_mx, pe_cm, pe_not, pe_beq, pe_ite, pe_len, pe_slen, pe_sat, pe_xt, pe_call, fnOf, preOf, cm_eq, cm_ne, cm_lt, cm_le, cm_gt, cm_ge, ar_add, ar_sub, ar_mul, ar_quo, ar_rem, ar_shl, ar_shr, wrap_u64, wrap_i64, wrap_u8, wrap_u16, List.getD_cons_zero, List.getD_cons_succ, List.cons_append, List.nil_append, D.toInt_int, D.toBool_bool, decide_eq_true_eq, decide_eq_false_iff_not, Bool.not_eq_true, Bool.not_eq_false, s59_pre, e1, s60_fn, s60_pre, hw1, p14a, true_implies, true_and]
  have m0 : max (ds.getD 0 default).toInt 0 % 18446744073709551616 = max (ds.getD 0 default).toInt 0 := by omega
  have m2 : (ds.getD 4 default).toInt * 16384 % 18446744073709551616 = (ds.getD 4 default).toInt * 16384 := by omega
  rcases hs with hs | hs
  · have m1 : ((max (ds.getD 1 default).toInt 0 % 18446744073709551616 + 1 * 4 % 18446744073709551616) % 18446744073709551616 - 1) % 18446744073709551616 = max (ds.getD 1 default).toInt 0 + 4 - 1 := by omega
    have f0 : ∀ x : Int, x.fdiv 4 = x / 4 := fun x => Int.fdiv_eq_ediv_of_nonneg x (by decide)
    have ew : wsh (ds.getD 7 default).toInt = 4 := by rw [hs]; rfl
    rw [ew]
    simp only [hs, p2a, m0, m1, m2, f0, Bool.true_eq_false, false_implies, and_true]
    have hb : btw (ds.getD 0 default).toInt (ds.getD 1 default).toInt P (ds.getD 4 default).toInt (ds.getD 5 default).toInt (ds.getD 6 default).toInt 4 = (decide (0 ≤ cx (P * 16384) ((ds.getD 4 default).toInt * 16384) (ds.getD 5 default).toInt (ds.getD 6 default).toInt (max (ds.getD 0 default).toInt 0 / 4)) && decide (cx (P * 16384) ((ds.getD 4 default).toInt * 16384) (ds.getD 5 default).toInt (ds.getD 6 default).toInt ((max (ds.getD 1 default).toInt 0 + 4 - 1) / 4) ≤ 0)) := rfl
    rw [hb]
    refine ⟨by omega, by omega, by omega, by omega, by omega, by omega, fun c => ?_, fun c => ?_⟩
    · rw [decide_eq_true c, Bool.true_and]; exact AgreeS.refl _ _
    · rw [decide_eq_false c, Bool.false_and]; exact AgreeS.refl _ _
  · have m1 : ((max (ds.getD 1 default).toInt 0 % 18446744073709551616 + 1 * 1024 % 18446744073709551616) % 18446744073709551616 - 1) % 18446744073709551616 = max (ds.getD 1 default).toInt 0 + 1024 - 1 := by omega
    have f0 : ∀ x : Int, x.fdiv 1024 = x / 1024 := fun x => Int.fdiv_eq_ediv_of_nonneg x (by decide)
    have ew : wsh (ds.getD 7 default).toInt = 1024 := by rw [hs]; rfl
    rw [ew]
    simp only [hs, p10a, m0, m1, m2, f0, Bool.true_eq_false, false_implies, and_true]
    have hb : btw (ds.getD 0 default).toInt (ds.getD 1 default).toInt P (ds.getD 4 default).toInt (ds.getD 5 default).toInt (ds.getD 6 default).toInt 1024 = (decide (0 ≤ cx (P * 16384) ((ds.getD 4 default).toInt * 16384) (ds.getD 5 default).toInt (ds.getD 6 default).toInt (max (ds.getD 0 default).toInt 0 / 1024)) && decide (cx (P * 16384) ((ds.getD 4 default).toInt * 16384) (ds.getD 5 default).toInt (ds.getD 6 default).toInt ((max (ds.getD 1 default).toInt 0 + 1024 - 1) / 1024) ≤ 0)) := rfl
    rw [hb]
    refine ⟨by omega, by omega, by omega, by omega, by omega, by omega, fun c => ?_, fun c => ?_⟩
    · rw [decide_eq_true c, Bool.true_and]; exact AgreeS.refl _ _
    · rw [decide_eq_false c, Bool.false_and]; exact AgreeS.refl _ _)
theorem s23_fn (a b c d e f g h : D) : s23.fn [a, b, c, d, e, f, g, h] = [.bool (btw a.toInt b.toInt (wof c d) e.toInt f.toInt g.toInt (wsh h.toInt))] := rfl
theorem s23_pre (a b c d e f g h : D) : s23.pre [a, b, c, d, e, f, g, h] = ((a.toInt ≤ 17592186044416 ∧ b.toInt ≤ 17592186044416) ∧ (0 ≤ c.toInt ∧ c.toInt < 262144) ∧ (0 ≤ d.toInt ∧ d.toInt < 18446744073709551616) ∧ (0 ≤ e.toInt ∧ e.toInt ≤ 262143) ∧ (0 ≤ f.toInt ∧ f.toInt < 8589934592) ∧ (1 ≤ g.toInt ∧ g.toInt < 18446744073709551616) ∧ (h.toInt = 2 ∨ h.toInt = 10)) := rfl
end Go.Proofs.YteaiikmijhikpaaGreatDoor
end
