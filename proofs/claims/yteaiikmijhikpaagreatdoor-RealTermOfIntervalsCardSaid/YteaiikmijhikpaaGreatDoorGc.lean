/- Contracts of the exact reference terms, each for every input that its precondition allows. -/
import Derived.Test.YteaiikmijhikpaaGreatDoorGb
set_option linter.all false
section
namespace Go.Proofs.YteaiikmijhikpaaGreatDoor
open Go Go.Sx Bz
set_option maxRecDepth 100000

/-- Numbers of 64 bits among the data, from place i on. -/
def u64s (ds : List D) : Nat → Nat → Prop
  | 0, _ => True
  | n + 1, i => (0 ≤ (ds.getD i default).toInt ∧ (ds.getD i default).toInt < 18446744073709551616) ∧ u64s ds n (i + 1)
def wof (a b : D) : Int := a.toInt * 18446744073709551616 + b.toInt
def wd (n : Int) : List D := [.int (n / 18446744073709551616), .int (n % 18446744073709551616)]
theorem wd_wof (n : Int) : wof (.int (n / 18446744073709551616)) (.int (n % 18446744073709551616)) = n := by simp only [wof, D.toInt_int]; omega
theorem wd_rng {n : Int} (h0 : 0 ≤ n) (h : n < 340282366920938463463374607431768211456) : (0 ≤ n / 18446744073709551616 ∧ n / 18446744073709551616 < 18446744073709551616) ∧ 0 ≤ n % 18446744073709551616 ∧ n % 18446744073709551616 < 18446744073709551616 := by omega
theorem xt_adds {x y c : Int} (hx : 0 ≤ x) (hy : 0 ≤ y) (hc : 0 ≤ c) : Xt.eval .adds x y c = (x + y + c) % 18446744073709551616 := by
  simp only [Xt.eval]; omega
theorem xt_addc {x y c : Int} (hx : 0 ≤ x) (hy : 0 ≤ y) (hc : 0 ≤ c) : Xt.eval .addc x y c = (x + y + c) / 18446744073709551616 := by
  simp only [Xt.eval]; omega
theorem xt_subs {x y c : Int} (hx : 0 ≤ x) (hy : 0 ≤ y) (hc : 0 ≤ c) (hy1 : y + c ≤ 18446744073709551616) : Xt.eval .subs x y c = (x - y - c) % 18446744073709551616 := by
  simp only [Xt.eval]; omega
theorem xt_subb {x y c : Int} (hx : 0 ≤ x) (hy : 0 ≤ y) (hc : 0 ≤ c) : Xt.eval .subb x y c = if x < y + c then 1 else 0 := by
  simp only [Xt.eval]; split <;> split <;> omega
/-- compositor/compositorref01.Mul -/
def c107 : Con := { f := 107, ps := [.at (.int .u64), .at (.int .u64)], rs := [.agg [.int .u64, .int .u64]] }
def t107 : Lt :=
 (.call 0 [.v 0, .v 1] 2
 (.ret (.done [.v 2, .v 3])))
theorem t107_eq : ((fnC (PV.fast Tryz.prog) G (([s166] : List Sx.Spec).map (·.con)) [] 300 c107 20).prune []).toTr = t107.expand (vars 2) := by kernel_rfl

def s107 : Sx.Spec := { con := c107, pre := fun ds => u64s ds 2 0, fn := fun ds => wd ((ds.getD 0 default).toInt * (ds.getD 1 default).toInt) }
theorem s107_ok : s107.Ok Tryz.prog G := lspec_ok [s166] (by simp only [List.mem_cons, List.not_mem_nil, or_false, forall_eq_or_imp, forall_eq]; exact s166_ok) s107 300 20 (fun _ h => by cases h) t107 2 t107_eq (by
  intro ds h
  simp only [s107, u64s, Nat.reduceAdd] at h
  simp only [t107, Nat.reduceAdd, Lt.holds, Lt.safe, Lt.run, Leaf.at, LeafV.Ok, envOf, resD, T.eval, T.evals, pe_ar, pe_wrap, pe_mn, pe_mx, pe_cm, pe_not, pe_beq, pe_ite, pe_len, pe_slen, pe_sat, pe_xt, pe_call, fnOf, preOf, cm_eq, cm_ne, cm_lt, cm_le, cm_gt, cm_ge, ar_add, ar_sub, ar_mul, ar_quo, ar_rem, ar_shl, ar_shr, wrap_u64, wrap_i64, wrap_u8, wrap_u16, List.getD_cons_zero, List.getD_cons_succ, List.cons_append, List.nil_append, D.toInt_int, D.toBool_bool, decide_eq_true_eq, decide_eq_false_iff_not, Bool.not_eq_true, Bool.not_eq_false, s166_val _ _ h.1.1 h.1.2 h.2.1.1 h.2.1.2]
  exact ⟨trivial, AgreeS.refl _ _⟩)
/-- compositor/compositorref01.Compare -/
def c108 : Con := { f := 108, ps := [.agg [.int .u64, .int .u64], .agg [.int .u64, .int .u64]], rs := [.at (.int .i64)] }
def t108 : Lt :=
 (.ask (.app (.cm .eq) [.v 0, .v 2])
  (.ask (.app (.cm .eq) [.v 1, .v 3])
   (.ret (.done [.lit (.int (0))]))
   (.ask (.app (.cm .lt) [.v 0, .v 2])
    (.ret (.done [.lit (.int (-1))]))
    (.ask (.app (.cm .lt) [.v 1, .v 3])
     (.ret (.done [.lit (.int (-1))]))
     (.ret (.done [.lit (.int (1))])))))
  (.ask (.app (.cm .lt) [.v 0, .v 2])
   (.ret (.done [.lit (.int (-1))]))
   (.ret (.done [.lit (.int (1))]))))
theorem t108_eq : ((fnC (PV.fast Tryz.prog) G (([] : List Sx.Spec).map (·.con)) [] 300 c108 20).prune []).toTr = t108.expand (vars 4) := by kernel_rfl

def s108 : Sx.Spec := { con := c108, pre := fun ds => u64s ds 4 0, fn := fun ds => [.int (cmpI (wof (ds.getD 0 default) (ds.getD 1 default)) (wof (ds.getD 2 default) (ds.getD 3 default)))] }
theorem s108_ok : s108.Ok Tryz.prog G := lspec_ok [] (by simp) s108 300 20 (fun _ h => by cases h) t108 4 t108_eq (by
  intro ds h
  simp only [s108, u64s, Nat.reduceAdd] at h
  simp only [t108, Nat.reduceAdd, Lt.holds, Lt.safe, Lt.run, Leaf.at, LeafV.Ok, envOf, resD, T.eval, T.evals, pe_ar, pe_wrap, pe_mn, pe_mx, pe_cm, pe_not, pe_beq, pe_ite, pe_len, pe_slen, pe_sat, pe_xt, pe_call, fnOf, preOf, cm_eq, cm_ne, cm_lt, cm_le, cm_gt, cm_ge, ar_add, ar_sub, ar_mul, ar_quo, ar_rem, ar_shl, ar_shr, wrap_u64, wrap_i64, wrap_u8, wrap_u16, List.getD_cons_zero, List.getD_cons_succ, List.cons_append, List.nil_append, D.toInt_int, D.toBool_bool, decide_eq_true_eq, decide_eq_false_iff_not, Bool.not_eq_true, Bool.not_eq_false, s108, c108, AgreeS, AgreeL, Agree, List.headD_cons, List.tail_cons, List.drop_succ_cons, List.drop_zero, List.length_cons, List.length_nil, cmpI, wof]
  refine ⟨fun _ => ⟨fun _ => ?_, fun _ => ⟨fun _ => ?_, fun _ => ⟨fun _ => ?_, fun _ => ?_⟩⟩⟩, fun _ => ⟨fun _ => ?_, fun _ => ?_⟩⟩ <;> refine ⟨?_, trivial⟩ <;> (repeat' split) <;> omega)
/-- compositor/compositorref01.Add -/
def c110 : Con := { f := 110, ps := [.agg [.int .u64, .int .u64], .agg [.int .u64, .int .u64]], rs := [.agg [.int .u64, .int .u64], .at (.bool)] }
def t110 : Lt :=
 (.need (.app (.cm .le) [.app (.xt .addc) [.v 1, .v 3, .lit (.int (0))], .lit (.int (1))])
 (.ask (.app (.cm .ne) [.app (.xt .addc) [.v 0, .v 2, .app (.xt .addc) [.v 1, .v 3, .lit (.int (0))]], .lit (.int (0))])
  (.ret (.done [.lit (.int (0)), .lit (.int (0)), .lit (.bool false)]))
  (.ret (.done [.app (.xt .adds) [.v 0, .v 2, .app (.xt .addc) [.v 1, .v 3, .lit (.int (0))]], .app (.xt .adds) [.v 1, .v 3, .lit (.int (0))], .lit (.bool true)]))))
theorem t110_eq : ((fnC (PV.fast Tryz.prog) G (([] : List Sx.Spec).map (·.con)) [] 300 c110 20).prune []).toTr = t110.expand (vars 4) := by kernel_rfl

def s110 : Sx.Spec := { con := c110, pre := fun ds => u64s ds 4 0, fn := fun ds => if wof (ds.getD 0 default) (ds.getD 1 default) + wof (ds.getD 2 default) (ds.getD 3 default) < 340282366920938463463374607431768211456 then wd (wof (ds.getD 0 default) (ds.getD 1 default) + wof (ds.getD 2 default) (ds.getD 3 default)) ++ [.bool true] else [.int 0, .int 0, .bool false] }
theorem s110_ok : s110.Ok Tryz.prog G := lspec_ok [] (by simp) s110 300 20 (fun _ h => by cases h) t110 4 t110_eq (by
  intro ds h
  simp only [s110, u64s, Nat.reduceAdd] at h
  simp only [t110, Nat.reduceAdd, Lt.holds, Lt.safe, Lt.run, Leaf.at, LeafV.Ok, envOf, resD, T.eval, T.evals, pe_ar, pe_wrap, pe_mn, pe_mx, pe_cm, pe_not, pe_beq, pe_ite, pe_len, pe_slen, pe_sat, pe_xt, pe_call, fnOf, preOf, cm_eq, cm_ne, cm_lt, cm_le, cm_gt, cm_ge, ar_add, ar_sub, ar_mul, ar_quo, ar_rem, ar_shl, ar_shr, wrap_u64, wrap_i64, wrap_u8, wrap_u16, List.getD_cons_zero, List.getD_cons_succ, List.cons_append, List.nil_append, D.toInt_int, D.toBool_bool, decide_eq_true_eq, decide_eq_false_iff_not, Bool.not_eq_true, Bool.not_eq_false, s110, c110, wd]
  have e1 : wof (ds.getD 0 default) (ds.getD 1 default) = (ds.getD 0 default).toInt * 18446744073709551616 + (ds.getD 1 default).toInt := id rfl
  have e2 : wof (ds.getD 2 default) (ds.getD 3 default) = (ds.getD 2 default).toInt * 18446744073709551616 + (ds.getD 3 default).toInt := id rfl
  rw [xt_addc h.2.1.1 h.2.2.2.1.1 (by omega), xt_adds h.2.1.1 h.2.2.2.1.1 (by omega), xt_addc h.1.1 h.2.2.1.1 (by omega), xt_adds h.1.1 h.2.2.1.1 (by omega)]
  refine ⟨by omega, fun hc => ?_, fun hc => ?_⟩
  · rw [if_neg (by omega)]; exact AgreeS.refl _ _
  · rw [if_pos (by omega)]
    simp only [AgreeS, AgreeL, Agree, List.headD_cons, List.tail_cons, List.drop_succ_cons, List.drop_zero, List.length_cons, List.length_nil, List.cons_append, List.nil_append, D.toInt_int, D.toBool_bool]
    refine ⟨⟨?_, ?_, trivial⟩, trivial, trivial⟩ <;> omega)
/-- compositor/compositorref01.Sub -/
def c57 : Con := { f := 57, ps := [.agg [.int .u64, .int .u64], .agg [.int .u64, .int .u64]], rs := [.agg [.int .u64, .int .u64], .at (.bool)] }
def t57 : Lt :=
 (.call 0 [.v 0, .v 1, .v 2, .v 3] 1
 (.ask (.app (.cm .lt) [.v 4, .lit (.int (0))])
  (.ret (.done [.lit (.int (0)), .lit (.int (0)), .lit (.bool false)]))
  (.ret (.done [.app (.ar .sub .u64) [.app (.ar .sub .u64) [.v 0, .v 2], .app (.xt .subb) [.v 1, .v 3, .lit (.int (0))]], .app (.xt .subs) [.v 1, .v 3, .lit (.int (0))], .lit (.bool true)]))))
theorem t57_eq : ((fnC (PV.fast Tryz.prog) G (([s108] : List Sx.Spec).map (·.con)) [] 300 c57 20).prune []).toTr = t57.expand (vars 4) := by kernel_rfl

def s57 : Sx.Spec := { con := c57, pre := fun ds => u64s ds 4 0, fn := fun ds => if wof (ds.getD 0 default) (ds.getD 1 default) < wof (ds.getD 2 default) (ds.getD 3 default) then [.int 0, .int 0, .bool false] else wd (wof (ds.getD 0 default) (ds.getD 1 default) - wof (ds.getD 2 default) (ds.getD 3 default)) ++ [.bool true] }
theorem s57_ok : s57.Ok Tryz.prog G := lspec_ok [s108] (by simp only [List.mem_cons, List.not_mem_nil, or_false, forall_eq_or_imp, forall_eq]; exact s108_ok) s57 300 20 (fun _ h => by cases h) t57 4 t57_eq (by
  intro ds h
  simp only [s57, u64s, Nat.reduceAdd] at h
  simp only [t57, Nat.reduceAdd, Lt.holds, Lt.safe, Lt.run, Leaf.at, LeafV.Ok, envOf, resD, T.eval, T.evals, pe_ar, pe_wrap, pe_mn, pe_mx, pe_cm, pe_not, pe_beq, pe_ite, pe_len, pe_slen, pe_sat, pe_xt, pe_call, fnOf, preOf, cm_eq, cm_ne, cm_lt, cm_le, cm_gt, cm_ge, ar_add, ar_sub, ar_mul, ar_quo, ar_rem, ar_shl, ar_shr, wrap_u64, wrap_i64, wrap_u8, wrap_u16, List.getD_cons_zero, List.getD_cons_succ, List.cons_append, List.nil_append, D.toInt_int, D.toBool_bool, decide_eq_true_eq, decide_eq_false_iff_not, Bool.not_eq_true, Bool.not_eq_false, s57, c57, s108, u64s, cmpI]
  rw [xt_subb h.2.1.1 h.2.2.2.1.1 (by omega), xt_subs h.2.1.1 h.2.2.2.1.1 (by omega) (by omega)]
  simp only [wd]
  have e1 : wof (ds.getD 0 default) (ds.getD 1 default) = (ds.getD 0 default).toInt * 18446744073709551616 + (ds.getD 1 default).toInt := id rfl
  have e2 : wof (ds.getD 2 default) (ds.getD 3 default) = (ds.getD 2 default).toInt * 18446744073709551616 + (ds.getD 3 default).toInt := id rfl
  by_cases hlt : wof (ds.getD 0 default) (ds.getD 1 default) < wof (ds.getD 2 default) (ds.getD 3 default)
  · rw [if_pos hlt, if_pos hlt]
    exact ⟨⟨h.1, h.2.1, h.2.2.1, h.2.2.2.1, trivial⟩, fun hc => AgreeS.refl _ _, fun hc => absurd (show (-1 : Int) < 0 by decide) hc⟩
  · rw [if_neg hlt, if_neg hlt]
    refine ⟨⟨h.1, h.2.1, h.2.2.1, h.2.2.2.1, trivial⟩, fun hc => ?_, fun hc => ?_⟩
    · split at hc <;> omega
    · simp only [AgreeS, AgreeL, Agree, List.headD_cons, List.tail_cons, List.drop_succ_cons, List.drop_zero, List.length_cons, List.length_nil, List.cons_append, List.nil_append, Nat.reduceAdd, D.toInt_int, D.toBool_bool]
      refine ⟨⟨?_, ?_, trivial⟩, trivial, trivial⟩
      · split <;> omega
      · omega)
end Go.Proofs.YteaiikmijhikpaaGreatDoor
end
section
namespace Go.Proofs.YteaiikmijhikpaaGreatDoor
open Go Go.Sx Bz
set_option maxRecDepth 100000
/-- compositor/compositorref01.MulSmall -/
def c59 : Con := { f := 59, ps := [.agg [.int .u64, .int .u64], .at (.int .u64)], rs := [.agg [.int .u64, .int .u64], .at (.bool)] }
def p59_3 : Tmpl := tmplOf 36 [(1, .int .u64 (.v 0)), (2, .ptr 0 0), (4, .ptr 1 0), (6, .ptr 2 0)] [(0, .cells [.int .u64 (.v 0), .int .u64 (.v 0)] 62), (1, .cells [.int .u64 (.lit (.int (0))), .int .u64 (.lit (.int (0)))] 62), (2, .cells [.int .u64 (.v 0), .int .u64 (.v 0)] 62)] 3
noncomputable def t59 : Lt :=
 (.ret (.cut 0 (todoOf (PV.fast Tryz.prog) 59 3) [.v 2, .v 0, .v 1, .lit (.int (0)), .lit (.int (0))]))
theorem t59_eq : ((fnC (PV.fast Tryz.prog) G (([s110] : List Sx.Spec).map (·.con)) [⟨3, p59_3⟩] 300 c59 20).prune []).toTr = t59.expand (vars 3) := by kernel_rfl
noncomputable def t59_3 : Lt :=
 (.ask (.app (.cm .gt) [.v 0, .lit (.int (0))])
  (.ask (.app (.cm .eq) [.app (.ar .and .u64) [.v 0, .lit (.int (1))], .lit (.int (1))])
   (.call 0 [.v 3, .v 4, .v 1, .v 2] 3
   (.ask (.v 7)
    (.ask (.app (.cm .gt) [.app (.ar .shr .u64) [.v 0, .lit (.int (1))], .lit (.int (0))])
     (.call 0 [.v 1, .v 2, .v 1, .v 2] 3
     (.ask (.v 10)
      (.ret (.cut 0 (todoOf (PV.fast Tryz.prog) 59 3) [.app (.ar .shr .u64) [.v 0, .lit (.int (1))], .v 8, .v 9, .v 5, .v 6]))
      (.ret (.done [.lit (.int (0)), .lit (.int (0)), .lit (.bool false)]))))
     (.ret (.cut 0 (todoOf (PV.fast Tryz.prog) 59 3) [.app (.ar .shr .u64) [.v 0, .lit (.int (1))], .v 1, .v 2, .v 5, .v 6])))
    (.ret (.done [.lit (.int (0)), .lit (.int (0)), .lit (.bool false)]))))
   (.ask (.app (.cm .gt) [.app (.ar .shr .u64) [.v 0, .lit (.int (1))], .lit (.int (0))])
    (.call 0 [.v 1, .v 2, .v 1, .v 2] 3
    (.ask (.v 7)
     (.ret (.cut 0 (todoOf (PV.fast Tryz.prog) 59 3) [.app (.ar .shr .u64) [.v 0, .lit (.int (1))], .v 5, .v 6, .v 3, .v 4]))
     (.ret (.done [.lit (.int (0)), .lit (.int (0)), .lit (.bool false)]))))
    (.ret (.cut 0 (todoOf (PV.fast Tryz.prog) 59 3) [.app (.ar .shr .u64) [.v 0, .lit (.int (1))], .v 1, .v 2, .v 3, .v 4]))))
  (.ret (.done [.v 3, .v 4, .lit (.bool true)])))
theorem t59_3_eq : ((tlC (PV.fast Tryz.prog) G (([s110] : List Sx.Spec).map (·.con)) [⟨3, p59_3⟩] 300 c59 20 p59_3 3).prune []).toTr = t59_3.expand (vars 5) := by kernel_rfl

/-- out + a * k, if it has 128 bits. -/
def msF (k A O : Int) : List D := if O + A * k < 340282366920938463463374607431768211456 then wd (O + A * k) ++ [.bool true] else [.int 0, .int 0, .bool false]
def s59 : Sx.Spec := { con := c59, pre := fun ds => u64s ds 3 0, fn := fun ds => msF (ds.getD 2 default).toInt (wof (ds.getD 0 default) (ds.getD 1 default)) 0 }
def e59_3 : Tail where
  id := 3
  τ := p59_3
  pre ds := u64s ds 5 0
  fn ds := msF (ds.getD 0 default).toInt (wof (ds.getD 1 default) (ds.getD 2 default)) (wof (ds.getD 3 default) (ds.getD 4 default))
  meas ds := (ds.getD 0 default).toInt.toNat
theorem and_one {k : Int} (h0 : 0 ≤ k) (h1 : k < 18446744073709551616) : Ar.eval .and .u64 k 1 = k % 2 := by
  rw [and_u64 h0 h1 (by decide) (by decide)]
  rw [show (1 : Int).toNat = 1 from rfl, Nat.and_one_is_mod]
  omega
theorem shr_one (k : Int) : k.fdiv (2 ^ (min (1 : Int).toNat IntKind.u64.bits)) = k / 2 := Int.fdiv_eq_ediv_of_nonneg _ (by decide)
theorem s110_yes {a b c d : D} (h : wof a b + wof c d < 340282366920938463463374607431768211456) : s110.fn [a, b, c, d] = [.int ((wof a b + wof c d) / 18446744073709551616), .int ((wof a b + wof c d) % 18446744073709551616), .bool true] := by
  have e : s110.fn [a, b, c, d] = if wof a b + wof c d < 340282366920938463463374607431768211456 then wd (wof a b + wof c d) ++ [.bool true] else [.int 0, .int 0, .bool false] := rfl
  rw [e, if_pos h]; rfl
theorem s110_no {a b c d : D} (h : ¬ wof a b + wof c d < 340282366920938463463374607431768211456) : s110.fn [a, b, c, d] = [.int 0, .int 0, .bool false] := by
  have e : s110.fn [a, b, c, d] = if wof a b + wof c d < 340282366920938463463374607431768211456 then wd (wof a b + wof c d) ++ [.bool true] else [.int 0, .int 0, .bool false] := rfl
  rw [e, if_neg h]
theorem msF_no {k A O : Int} (h : 340282366920938463463374607431768211456 ≤ O + A * k) : msF k A O = [.int 0, .int 0, .bool false] := by
  unfold msF; rw [if_neg (by omega)]
theorem wof_rng {a b : D} (h : (0 ≤ a.toInt ∧ a.toInt < 18446744073709551616) ∧ 0 ≤ b.toInt ∧ b.toInt < 18446744073709551616) : 0 ≤ wof a b ∧ wof a b < 340282366920938463463374607431768211456 := by
  unfold wof; omega
theorem v59_3 (ds : List D) (h : e59_3.pre ds) : t59_3.holds (fnOf [s110]) (preOf [s110]) (LeafV.Ok (PV.fast Tryz.prog) c59 [e59_3] (e59_3.fn ds) (· < e59_3.meas ds)) (envOf 5 ds) := by
  have hm : e59_3.meas ds = (ds.getD 0 default).toInt.toNat := rfl
  have hg : e59_3.fn ds = msF (ds.getD 0 default).toInt (wof (ds.getD 1 default) (ds.getD 2 default)) (wof (ds.getD 3 default) (ds.getD 4 default)) := rfl
  simp only [e59_3, u64s, Nat.reduceAdd] at h
  obtain ⟨⟨k0, k1⟩, hA1, hA2, hO1, hO2, _⟩ := h
  have hA := wof_rng ⟨hA1, hA2⟩
  have hO := wof_rng ⟨hO1, hO2⟩
  rw [hm, hg]
  simp only [t59_3, Nat.reduceAdd, Lt.holds, Lt.safe, Lt.run, Leaf.at, LeafV.Ok, envOf, resD, T.eval, T.evals, pe_ar, pe_wrap, pe_mn, pe_mx, pe_cm, pe_not, pe_beq, pe_ite, pe_len, pe_slen, pe_sat, pe_xt, pe_call, fnOf, preOf, cm_eq, cm_ne, cm_lt, cm_le, cm_gt, cm_ge, ar_add, ar_sub, ar_mul, ar_quo, ar_rem, ar_shl, ar_shr, wrap_u64, wrap_i64, wrap_u8, wrap_u16, List.getD_cons_zero, List.getD_cons_succ, List.cons_append, List.nil_append, D.toInt_int, D.toBool_bool, decide_eq_true_eq, decide_eq_false_iff_not, Bool.not_eq_true, Bool.not_eq_false, shr_one, and_one k0 k1]
  generalize eA : wof (ds.getD 1 default) (ds.getD 2 default) = A at *
  generalize eO : wof (ds.getD 3 default) (ds.getD 4 default) = O at *
  generalize (ds.getD 0 default).toInt = k at *
  have hpre : ∀ l, s110.pre l = u64s l 4 0 := fun _ => rfl
  have cut : ∀ (i : Nat) (r : List D), (LeafV.Ok (PV.fast Tryz.prog) c59 [e59_3] (msF k A O) (· < k.toNat)) (.cut 0 (todoOf (PV.fast Tryz.prog) 59 3) r) ↔
      e59_3.pre r ∧ e59_3.meas r < k.toNat ∧ AgreeS c59.rs (e59_3.fn r) (msF k A O) := fun i r => by
    simp only [LeafV.Ok, List.getElem?_cons_zero, Option.some.injEq, exists_eq_left']
    exact ⟨fun ⟨_, a, b, c⟩ => ⟨a, b, c⟩, fun ⟨a, b, c⟩ => ⟨rfl, a, b, c⟩⟩
  have next : ∀ (A' O' : Int) (x y z u : D), (0 ≤ x.toInt ∧ x.toInt < 18446744073709551616) → (0 ≤ y.toInt ∧ y.toInt < 18446744073709551616) → (0 ≤ z.toInt ∧ z.toInt < 18446744073709551616) → (0 ≤ u.toInt ∧ u.toInt < 18446744073709551616) →
      wof x y = A' → wof z u = O' → 0 < k → O' + A' * (k / 2) = O + A * k → e59_3.pre [.int (k / 2), x, y, z, u] ∧ e59_3.meas [.int (k / 2), x, y, z, u] < k.toNat ∧ AgreeS c59.rs (e59_3.fn [.int (k / 2), x, y, z, u]) (msF k A O) := by
    intro A' O' x y z u hx hy hz hu ea eo hk he
    refine ⟨?_, ?_, ?_⟩
    · simp only [e59_3, u64s, Nat.reduceAdd, List.getD_cons_zero, List.getD_cons_succ, D.toInt_int]
      exact ⟨by omega, hx, hy, hz, hu, trivial⟩
    · simp only [e59_3, List.getD_cons_zero, D.toInt_int]; omega
    · simp only [e59_3, List.getD_cons_zero, List.getD_cons_succ, D.toInt_int, ea, eo]
      have : msF (k / 2) A' O' = msF k A O := by unfold msF; rw [he]
      rw [this]; exact AgreeS.refl _ _
  have odd : k % 2 = 1 → A * k = A + A * 2 * (k / 2) := fun h => by
    have : k = 1 + 2 * (k / 2) := by omega
    calc A * k = A * (1 + 2 * (k / 2)) := by rw [← this]
      _ = A + A * 2 * (k / 2) := by rw [Int.mul_add, Int.mul_one, Int.mul_assoc]
  have even : ¬ k % 2 = 1 → A * k = A * 2 * (k / 2) := fun h => by
    have : k = 2 * (k / 2) := by omega
    calc A * k = A * (2 * (k / 2)) := by rw [← this]
      _ = A * 2 * (k / 2) := by rw [Int.mul_assoc]
  have big : 0 < k / 2 → A * 2 ≤ A * 2 * (k / 2) := fun h => by
    have := Int.mul_le_mul_of_nonneg_left (show 1 ≤ k / 2 by omega) (show 0 ≤ A * 2 by omega)
    omega
  have nn : 0 ≤ A * 2 * (k / 2) := Int.mul_nonneg (by omega) (by omega)
  refine ⟨fun hk => ⟨fun hb => ⟨?_, ?_⟩, fun hb => ⟨fun hk2 => ⟨?_, ?_⟩, fun hk2 => ?_⟩⟩, fun hk => ?_⟩
  · rw [hpre]; simp only [u64s, Nat.reduceAdd, List.getD_cons_zero, List.getD_cons_succ]; exact ⟨hO1, hO2, hA1, hA2, trivial⟩
  · -- the bit is added
    by_cases c1 : O + A < 340282366920938463463374607431768211456
    · rw [s110_yes (by rw [eO, eA]; exact c1), eO, eA]
      simp only [List.getD_cons_zero, List.getD_cons_succ, D.toInt_int, D.toBool_bool, List.cons_append, List.nil_append, true_implies, Bool.true_eq_false, false_implies, and_true]
      obtain ⟨q1, q2⟩ := wd_rng (show 0 ≤ O + A by omega) c1
      refine ⟨fun hk2 => ⟨?_, ?_⟩, fun hk2 => ?_⟩
      · rw [hpre]; simp only [u64s, Nat.reduceAdd, List.getD_cons_zero, List.getD_cons_succ]; exact ⟨hA1, hA2, hA1, hA2, trivial⟩
      · by_cases c2 : A + A < 340282366920938463463374607431768211456
        · rw [s110_yes (by rw [eA]; exact c2), eA]
          simp only [List.getD_cons_zero, List.getD_cons_succ, D.toInt_int, D.toBool_bool, List.cons_append, List.nil_append, true_implies, Bool.true_eq_false, false_implies, and_true]
          obtain ⟨r1, r2⟩ := wd_rng (show 0 ≤ A + A by omega) c2
          exact (cut 0 _).2 (next (A + A) (O + A) _ _ _ _ r1 r2 q1 q2 (wd_wof _) (wd_wof _) hk (by rw [odd hb, show A + A = A * 2 by omega]; omega))
        · rw [s110_no (by rw [eA]; exact c2)]
          simp only [List.getD_cons_zero, List.getD_cons_succ, D.toInt_int, D.toBool_bool, List.cons_append, List.nil_append, true_implies, Bool.false_eq_true, false_implies, true_and]
          rw [msF_no (by rw [odd hb]; have := big (by omega); omega)]
          exact AgreeS.refl _ _
      · exact (cut 0 _).2 (next A (O + A) _ _ _ _ hA1 hA2 q1 q2 eA (wd_wof _) hk (by rw [odd hb, show k / 2 = 0 by omega]; omega))
    · rw [s110_no (by rw [eO, eA]; exact c1)]
      simp only [List.getD_cons_zero, List.getD_cons_succ, D.toInt_int, D.toBool_bool, List.cons_append, List.nil_append, true_implies, Bool.false_eq_true, false_implies, true_and]
      rw [msF_no (by rw [odd hb]; omega)]
      exact AgreeS.refl _ _
  · rw [hpre]; simp only [u64s, Nat.reduceAdd, List.getD_cons_zero, List.getD_cons_succ]; exact ⟨hA1, hA2, hA1, hA2, trivial⟩
  · by_cases c2 : A + A < 340282366920938463463374607431768211456
    · rw [s110_yes (by rw [eA]; exact c2), eA]
      simp only [List.getD_cons_zero, List.getD_cons_succ, D.toInt_int, D.toBool_bool, List.cons_append, List.nil_append, true_implies, Bool.true_eq_false, false_implies, and_true]
      obtain ⟨r1, r2⟩ := wd_rng (show 0 ≤ A + A by omega) c2
      exact (cut 0 _).2 (next (A + A) O _ _ _ _ r1 r2 hO1 hO2 (wd_wof _) eO hk (by rw [even hb, show A + A = A * 2 by omega]))
    · rw [s110_no (by rw [eA]; exact c2)]
      simp only [List.getD_cons_zero, List.getD_cons_succ, D.toInt_int, D.toBool_bool, List.cons_append, List.nil_append, true_implies, Bool.false_eq_true, false_implies, true_and]
      rw [msF_no (by rw [even hb]; have := big (by omega); omega)]
      exact AgreeS.refl _ _
  · exact (cut 0 _).2 (next A O _ _ _ _ hA1 hA2 hO1 hO2 eA eO hk (by rw [even hb, show k / 2 = 0 by omega]; omega))
  · have hk0 : k = 0 := by omega
    have : msF k A O = wd O ++ [.bool true] := by unfold msF; rw [hk0, Int.mul_zero, Int.add_zero, if_pos hO.2]
    rw [this, ← eO]
    simp only [wd, c59, AgreeS, AgreeL, Agree, List.headD_cons, List.tail_cons, List.drop_succ_cons, List.drop_zero, List.length_cons, List.length_nil, List.cons_append, List.nil_append, Nat.reduceAdd, D.toInt_int, D.toBool_bool, wof]
    refine ⟨⟨?_, ?_, trivial⟩, trivial, trivial⟩ <;> omega
theorem s59_ok : s59.Ok Tryz.prog G := lspec_cut [s110] (by simp only [List.mem_cons, List.not_mem_nil, or_false, forall_eq_or_imp, forall_eq]; exact s110_ok) s59 [e59_3] 300 20 (fun _ h => by cases h)
  (fun t ht => by
    simp only [List.mem_cons, List.not_mem_nil, or_false] at ht
    subst ht
    exact ⟨t59_3, 5, t59_3_eq, v59_3⟩) t59 3 t59_eq (by
  intro ds h
  simp only [s59, u64s, Nat.reduceAdd] at h
  simp only [t59, Nat.reduceAdd, Lt.holds, Lt.safe, Lt.run, Leaf.at, LeafV.Ok, envOf, resD, T.eval, T.evals, pe_ar, pe_wrap, pe_mn, pe_mx, pe_cm, pe_not, pe_beq, pe_ite, pe_len, pe_slen, pe_sat, pe_xt, pe_call, fnOf, preOf, cm_eq, cm_ne, cm_lt, cm_le, cm_gt, cm_ge, ar_add, ar_sub, ar_mul, ar_quo, ar_rem, ar_shl, ar_shr, wrap_u64, wrap_i64, wrap_u8, wrap_u16, List.getD_cons_zero, List.getD_cons_succ, List.cons_append, List.nil_append, D.toInt_int, D.toBool_bool, decide_eq_true_eq, decide_eq_false_iff_not, Bool.not_eq_true, Bool.not_eq_false, s59]
  refine ⟨e59_3, rfl, rfl, ?_, trivial, ?_⟩
  · simp only [e59_3, u64s, Nat.reduceAdd, List.getD_cons_zero, List.getD_cons_succ, D.toInt_int]
    exact ⟨h.2.2.1, h.1, h.2.1, by omega, by omega, trivial⟩
  · simp only [e59_3, List.getD_cons_zero, List.getD_cons_succ, D.toInt_int]
    exact AgreeS.refl _ _)
end Go.Proofs.YteaiikmijhikpaaGreatDoor
end
section
namespace Go.Proofs.YteaiikmijhikpaaGreatDoor
open Go Go.Sx Bz
set_option maxRecDepth 100000

theorem s107_fn (a b : D) : s107.fn [a, b] = [.int (a.toInt * b.toInt / 18446744073709551616), .int (a.toInt * b.toInt % 18446744073709551616)] := rfl
theorem s107_pre (a b : D) : s107.pre [a, b] = ((0 ≤ a.toInt ∧ a.toInt < 18446744073709551616) ∧ (0 ≤ b.toInt ∧ b.toInt < 18446744073709551616) ∧ True) := rfl
theorem s108_fn (a b c d : D) : s108.fn [a, b, c, d] = [.int (cmpI (wof a b) (wof c d))] := rfl
theorem s108_pre (a b c d : D) : s108.pre [a, b, c, d] = ((0 ≤ a.toInt ∧ a.toInt < 18446744073709551616) ∧ (0 ≤ b.toInt ∧ b.toInt < 18446744073709551616) ∧ (0 ≤ c.toInt ∧ c.toInt < 18446744073709551616) ∧ (0 ≤ d.toInt ∧ d.toInt < 18446744073709551616) ∧ True) := rfl
theorem s110_pre (a b c d : D) : s110.pre [a, b, c, d] = ((0 ≤ a.toInt ∧ a.toInt < 18446744073709551616) ∧ (0 ≤ b.toInt ∧ b.toInt < 18446744073709551616) ∧ (0 ≤ c.toInt ∧ c.toInt < 18446744073709551616) ∧ (0 ≤ d.toInt ∧ d.toInt < 18446744073709551616) ∧ True) := rfl
theorem s57_pre (a b c d : D) : s57.pre [a, b, c, d] = ((0 ≤ a.toInt ∧ a.toInt < 18446744073709551616) ∧ (0 ≤ b.toInt ∧ b.toInt < 18446744073709551616) ∧ (0 ≤ c.toInt ∧ c.toInt < 18446744073709551616) ∧ (0 ≤ d.toInt ∧ d.toInt < 18446744073709551616) ∧ True) := rfl
theorem s57_yes {a b c d : D} (h : wof c d ≤ wof a b) : s57.fn [a, b, c, d] = [.int ((wof a b - wof c d) / 18446744073709551616), .int ((wof a b - wof c d) % 18446744073709551616), .bool true] := by
  have e : s57.fn [a, b, c, d] = if wof a b < wof c d then [.int 0, .int 0, .bool false] else wd (wof a b - wof c d) ++ [.bool true] := rfl
  rw [e, if_neg (by omega)]; rfl
theorem s57_no {a b c d : D} (h : wof a b < wof c d) : s57.fn [a, b, c, d] = [.int 0, .int 0, .bool false] := by
  have e : s57.fn [a, b, c, d] = if wof a b < wof c d then [.int 0, .int 0, .bool false] else wd (wof a b - wof c d) ++ [.bool true] := rfl
  rw [e, if_pos h]
theorem s59_pre (a b k : D) : s59.pre [a, b, k] = ((0 ≤ a.toInt ∧ a.toInt < 18446744073709551616) ∧ (0 ≤ b.toInt ∧ b.toInt < 18446744073709551616) ∧ (0 ≤ k.toInt ∧ k.toInt < 18446744073709551616) ∧ True) := rfl
theorem s59_yes {a b k : D} (h : wof a b * k.toInt < 340282366920938463463374607431768211456) : s59.fn [a, b, k] = [.int (wof a b * k.toInt / 18446744073709551616), .int (wof a b * k.toInt % 18446744073709551616), .bool true] := by
  have e : s59.fn [a, b, k] = msF k.toInt (wof a b) 0 := rfl
  rw [e, msF, Int.zero_add, if_pos h]; rfl
theorem mul_u {a b : Int} (ha : 0 ≤ a ∧ a < 18446744073709551616) (hb : 0 ≤ b ∧ b < 18446744073709551616) : 0 ≤ a * b ∧ a * b < 340282366920938463463374607431768211456 := by
  have := mul_rng (A := 18446744073709551615) (B := 18446744073709551615) ha.1 (by omega) hb.1 (by omega)
  omega
/-- compositor/compositorref01.ValidExact -/
def c111 : Con := { f := 111, ps := [.agg [.int .u64, .int .u64, .int .u64, .int .u64, .int .u64]], rs := [.at (.bool)] }
def t111 : Lt :=
 (.ask (.app (.cm .lt) [.v 0, .lit (.int (4294967296))])
  (.ask (.app (.cm .lt) [.v 2, .lit (.int (70368744177664))])
   (.ask (.app (.cm .lt) [.v 3, .lit (.int (8589934592))])
    (.ret (.done [.app (.cm .ge) [.v 4, .lit (.int (1))]]))
    (.ret (.done [.lit (.bool false)])))
   (.ret (.done [.lit (.bool false)])))
  (.ret (.done [.lit (.bool false)])))
theorem t111_eq : ((fnC (PV.fast Tryz.prog) G (([] : List Sx.Spec).map (·.con)) [] 300 c111 20).prune []).toTr = t111.expand (vars 5) := by kernel_rfl

def s111 : Sx.Spec := { con := c111, pre := fun _ => True, fn := fun ds => [.bool (decide ((ds.getD 0 default).toInt < 4294967296 ∧ (ds.getD 2 default).toInt < 70368744177664 ∧ (ds.getD 3 default).toInt < 8589934592 ∧ 1 ≤ (ds.getD 4 default).toInt))] }
theorem s111_ok : s111.Ok Tryz.prog G := lspec_ok [] (by simp) s111 300 20 (fun _ h => by cases h) t111 5 t111_eq (by
  intro ds _
  simp only [t111, Nat.reduceAdd, Lt.holds, Lt.safe, Lt.run, Leaf.at, LeafV.Ok, envOf, resD, T.eval, T.evals, pe_ar, pe_wrap, pe_mn, pe_mx, pe_cm, pe_not, pe_beq, pe_ite, pe_len, pe_slen, pe_sat, pe_xt, pe_call, fnOf, preOf, cm_eq, cm_ne, cm_lt, cm_le, cm_gt, cm_ge, ar_add, ar_sub, ar_mul, ar_quo, ar_rem, ar_shl, ar_shr, wrap_u64, wrap_i64, wrap_u8, wrap_u16, List.getD_cons_zero, List.getD_cons_succ, List.cons_append, List.nil_append, D.toInt_int, D.toBool_bool, decide_eq_true_eq, decide_eq_false_iff_not, Bool.not_eq_true, Bool.not_eq_false, s111, c111, AgreeS, AgreeL, Agree, List.headD_cons, List.tail_cons, List.drop_succ_cons, List.drop_zero, List.length_cons, List.length_nil]
  refine ⟨fun h1 => ⟨fun h2 => ⟨fun h3 => ?_, fun h3 => ?_⟩, fun h2 => ?_⟩, fun h1 => ?_⟩ <;> refine ⟨?_, trivial⟩
  · exact decide_eq_decide.2 ⟨fun h => ⟨h1, h2, h3, h⟩, fun h => h.2.2.2⟩
  · exact (decide_eq_false (fun h => h3 h.2.2.1)).symm
  · exact (decide_eq_false (fun h => h2 h.2.1)).symm
  · exact (decide_eq_false (fun h => h1 h.1)).symm)
theorem s111_fn (a b c d e : D) : s111.fn [a, b, c, d, e] = [.bool (decide (a.toInt < 4294967296 ∧ c.toInt < 70368744177664 ∧ d.toInt < 8589934592 ∧ 1 ≤ e.toInt))] := rfl
/-- compositor/compositorref01.root -/
def c168 : Con := { f := 168, ps := [.agg [.int .u64, .int .u64, .int .u64, .int .u64, .int .u64], .agg [.int .u64, .int .u64]], rs := [.at (.int .i64)] }
def t168 : Lt :=
 (.ask (.app (.cm .gt) [.v 5, .lit (.int (0))])
  (.ret (.done [.lit (.int (-1))]))
  (.call 1 [.v 2, .v 2] 2
  (.call 0 [.v 7, .v 8, .v 3] 3
  (.call 1 [.v 6, .v 6] 2
  (.call 2 [.v 9, .v 10, .v 12, .v 13] 1
  (.ret (.done [.v 14])))))))
theorem t168_eq : ((fnC (PV.fast Tryz.prog) G (([s59, s107, s108] : List Sx.Spec).map (·.con)) [] 300 c168 20).prune []).toTr = t168.expand (vars 7) := by kernel_rfl

def qr (ds : List D) (i j : Nat) : Prop := (ds.getD i default).toInt < 70368744177664 ∧ (ds.getD j default).toInt < 8589934592
def s168 : Sx.Spec := { con := c168, pre := fun ds => u64s ds 7 0 ∧ qr ds 2 3, fn := fun ds => [.int (if 0 < (ds.getD 5 default).toInt then -1 else cmpI ((ds.getD 2 default).toInt * (ds.getD 2 default).toInt * (ds.getD 3 default).toInt) ((ds.getD 6 default).toInt * (ds.getD 6 default).toInt))] }
theorem qqr {Q R : Int} (hQ : 0 ≤ Q ∧ Q < 70368744177664) (hR : 0 ≤ R ∧ R < 8589934592) : 0 ≤ Q * Q * R ∧ Q * Q * R < 42535295865117307932921825928971026432 := by
  have h1 := mul_rng hQ.1 (show Q ≤ 70368744177663 by omega) hQ.1 (show Q ≤ 70368744177663 by omega)
  have h2 := mul_rng h1.1 h1.2 hR.1 (show R ≤ 8589934591 by omega)
  omega
theorem s168_ok : s168.Ok Tryz.prog G := lspec_ok [s59, s107, s108] (by simp only [List.mem_cons, List.not_mem_nil, or_false, forall_eq_or_imp, forall_eq]; exact ⟨s59_ok, s107_ok, s108_ok⟩) s168 300 20 (fun _ h => by cases h) t168 7 t168_eq (by
  intro ds h
  simp only [s168, u64s, Nat.reduceAdd, qr] at h
  obtain ⟨⟨_, _, hQ, hR, _, hhi, hlo, _⟩, q1, q2⟩ := h
  have b1 := qqr ⟨hQ.1, q1⟩ ⟨hR.1, q2⟩
  have b2 := mul_u hQ hQ
  have b3 := mul_u hlo hlo
  have e1 : s59.fn [.int ((ds.getD 2 default).toInt * (ds.getD 2 default).toInt / 18446744073709551616), .int ((ds.getD 2 default).toInt * (ds.getD 2 default).toInt % 18446744073709551616), ds.getD 3 default] = _ := s59_yes (by rw [wd_wof]; omega)
  rw [wd_wof] at e1
  simp only [t168, Nat.reduceAdd, Lt.holds, Lt.safe, Lt.run, Leaf.at, LeafV.Ok, envOf, resD, T.eval, T.evals, pe_ar, pe_wrap, pe_mn, pe_mx, pe_cm, pe_not, pe_beq, pe_ite, pe_len, pe_slen, pe_sat, pe_xt, pe_call, fnOf, preOf, cm_eq, cm_ne, cm_lt, cm_le, cm_gt, cm_ge, ar_add, ar_sub, ar_mul, ar_quo, ar_rem, ar_shl, ar_shr, wrap_u64, wrap_i64, wrap_u8, wrap_u16, List.getD_cons_zero, List.getD_cons_succ, List.cons_append, List.nil_append, D.toInt_int, D.toBool_bool, decide_eq_true_eq, decide_eq_false_iff_not, Bool.not_eq_true, Bool.not_eq_false, s107_fn, s107_pre, s59_pre, s108_pre, s108_fn, e1, wd_wof]
  refine ⟨fun hp => ?_, fun hp => ⟨⟨hQ, hQ, trivial⟩, ⟨by omega, by omega, hR, trivial⟩, ⟨hlo, hlo, trivial⟩, ⟨by omega, by omega, by omega, by omega, trivial⟩, ?_⟩⟩
  · simp only [s168]; rw [if_pos hp]; exact AgreeS.refl _ _
  · simp only [s168]; rw [if_neg hp]; exact AgreeS.refl _ _)
/-- compositor/compositorref01.times -/
def c112 : Con := { f := 112, ps := [.agg [.int .u64, .int .u64, .int .u64, .int .u64, .int .u64], .at (.bool), .at (.int .u64)], rs := [.at (.int .i64)] }
def t112 : Lt :=
 (.call 0 [.v 6, .v 4] 2
 (.ask (.v 5)
  (.call 1 [.v 0, .v 1, .v 0, .v 1] 3
  (.call 2 [.v 7, .v 8, .v 9, .v 10] 3
  (.ask (.v 14)
   (.call 3 [.v 0, .v 1, .app (.ar .mul .u64) [.lit (.int (2)), .v 2], .v 3, .v 4, .v 12, .v 13] 1
   (.ret (.done [.v 15])))
   (.ret (.done [.lit (.int (1))])))))
  (.call 2 [.v 7, .v 8, .v 0, .v 1] 3
  (.ask (.v 11)
   (.call 3 [.v 0, .v 1, .v 2, .v 3, .v 4, .v 9, .v 10] 1
   (.ret (.done [.v 12])))
   (.ret (.done [.lit (.int (1))]))))))
theorem t112_eq : ((fnC (PV.fast Tryz.prog) G (([s107, s110, s57, s168] : List Sx.Spec).map (·.con)) [] 300 c112 20).prune []).toTr = t112.expand (vars 7) := by kernel_rfl

def s112 : Sx.Spec := { con := c112, pre := fun ds => (u64s ds 5 0 ∧ (0 ≤ (ds.getD 6 default).toInt ∧ (ds.getD 6 default).toInt < 18446744073709551616) ∧ (ds.getD 5 default).toBool = false) ∧ qr ds 2 3, fn := fun ds => [.int (cx (wof (ds.getD 0 default) (ds.getD 1 default)) (ds.getD 2 default).toInt (ds.getD 3 default).toInt (ds.getD 4 default).toInt (ds.getD 6 default).toInt)] }
theorem s168_fn (a b c d e f g : D) : s168.fn [a, b, c, d, e, f, g] = [.int (if 0 < f.toInt then -1 else cmpI (c.toInt * c.toInt * d.toInt) (g.toInt * g.toInt))] := rfl
theorem s168_pre (a b c d e f g : D) : s168.pre [a, b, c, d, e, f, g] = (((0 ≤ a.toInt ∧ a.toInt < 18446744073709551616) ∧ (0 ≤ b.toInt ∧ b.toInt < 18446744073709551616) ∧ (0 ≤ c.toInt ∧ c.toInt < 18446744073709551616) ∧ (0 ≤ d.toInt ∧ d.toInt < 18446744073709551616) ∧ (0 ≤ e.toInt ∧ e.toInt < 18446744073709551616) ∧ (0 ≤ f.toInt ∧ f.toInt < 18446744073709551616) ∧ (0 ≤ g.toInt ∧ g.toInt < 18446744073709551616) ∧ True) ∧ c.toInt < 70368744177664 ∧ d.toInt < 8589934592) := rfl
theorem cx_far {P Q R Den n : Int} (hb : Q * Q * R < 42535295865117307932921825928971026432) (h : 18446744073709551616 ≤ n * Den - P) : cx P Q R Den n = -1 := by
  have := Int.mul_le_mul h h (by omega) (by omega)
  unfold cx cmpI
  rw [if_neg (by omega), if_pos (by omega)]
theorem s112_ok : s112.Ok Tryz.prog G := lspec_ok [s107, s110, s57, s168] (by simp only [List.mem_cons, List.not_mem_nil, or_false, forall_eq_or_imp, forall_eq]; exact ⟨s107_ok, s110_ok, s57_ok, s168_ok⟩) s112 300 20 (fun _ h => by cases h) t112 7 t112_eq (by
  intro ds h
  simp only [s112, u64s, Nat.reduceAdd, qr] at h
  obtain ⟨⟨⟨hp1, hp2, hQ, hR, hD, _⟩, hn, hf⟩, q1, q2⟩ := h
  have b1 := qqr ⟨hQ.1, q1⟩ ⟨hR.1, q2⟩
  have b2 := mul_u hn hD
  have bP := wof_rng ⟨hp1, hp2⟩
  simp only [t112, Nat.reduceAdd, Lt.holds, Lt.safe, Lt.run, Leaf.at, LeafV.Ok, envOf, resD, T.eval, T.evals, pe_ar, pe_wrap, pe_mn, pe_mx, pe_cm, pe_not, pe_beq, pe_ite, pe_len, pe_slen, pe_sat, pe_xt, pe_call, fnOf, preOf, cm_eq, cm_ne, cm_lt, cm_le, cm_gt, cm_ge, ar_add, ar_sub, ar_mul, ar_quo, ar_rem, ar_shl, ar_shr, wrap_u64, wrap_i64, wrap_u8, wrap_u16, List.getD_cons_zero, List.getD_cons_succ, List.cons_append, List.nil_append, D.toInt_int, D.toBool_bool, decide_eq_true_eq, decide_eq_false_iff_not, Bool.not_eq_true, Bool.not_eq_false, s107_fn, s107_pre, s57_pre, s168_pre, s168_fn, hf, Bool.false_eq_true, false_implies, true_and, true_implies]
  obtain ⟨r1, r2⟩ := wd_rng b2.1 b2.2
  refine ⟨⟨hn, hD, trivial⟩, ⟨r1, r2, hp1, hp2, trivial⟩, ?_⟩
  have goal : s112.fn ds = [.int (cx (wof (ds.getD 0 default) (ds.getD 1 default)) (ds.getD 2 default).toInt (ds.getD 3 default).toInt (ds.getD 4 default).toInt (ds.getD 6 default).toInt)] := rfl
  rw [goal]
  by_cases hlt : (ds.getD 6 default).toInt * (ds.getD 4 default).toInt < wof (ds.getD 0 default) (ds.getD 1 default)
  · rw [s57_no (by rw [wd_wof]; exact hlt)]
    simp only [Nat.reduceAdd, Lt.holds, Lt.safe, Lt.run, Leaf.at, LeafV.Ok, envOf, resD, T.eval, T.evals, pe_ar, pe_wrap, pe_mn, pe_mx, pe_cm, pe_not, pe_beq, pe_ite, pe_len, pe_slen, pe_sat, pe_xt, pe_call, fnOf, preOf, cm_eq, cm_ne, cm_lt, cm_le, cm_gt, cm_ge, ar_add, ar_sub, ar_mul, ar_quo, ar_rem, ar_shl, ar_shr, wrap_u64, wrap_i64, wrap_u8, wrap_u16, List.getD_cons_zero, List.getD_cons_succ, List.cons_append, List.nil_append, D.toInt_int, D.toBool_bool, decide_eq_true_eq, decide_eq_false_iff_not, Bool.not_eq_true, Bool.not_eq_false, Bool.false_eq_true, false_implies, true_and, true_implies]
    unfold cx
    rw [if_pos hlt]
    exact AgreeS.refl _ _
  · rw [s57_yes (by rw [wd_wof]; omega), wd_wof]
    simp only [Nat.reduceAdd, Lt.holds, Lt.safe, Lt.run, Leaf.at, LeafV.Ok, envOf, resD, T.eval, T.evals, pe_ar, pe_wrap, pe_mn, pe_mx, pe_cm, pe_not, pe_beq, pe_ite, pe_len, pe_slen, pe_sat, pe_xt, pe_call, fnOf, preOf, cm_eq, cm_ne, cm_lt, cm_le, cm_gt, cm_ge, ar_add, ar_sub, ar_mul, ar_quo, ar_rem, ar_shl, ar_shr, wrap_u64, wrap_i64, wrap_u8, wrap_u16, List.getD_cons_zero, List.getD_cons_succ, List.cons_append, List.nil_append, D.toInt_int, D.toBool_bool, decide_eq_true_eq, decide_eq_false_iff_not, Bool.not_eq_true, Bool.not_eq_false, Bool.true_eq_false, false_implies, and_true, true_implies]
    obtain ⟨w1, w2⟩ := wd_rng (show 0 ≤ (ds.getD 6 default).toInt * (ds.getD 4 default).toInt - wof (ds.getD 0 default) (ds.getD 1 default) by omega) (by omega)
    refine ⟨⟨⟨hp1, hp2, hQ, hR, hD, w1, w2.1, w2.2⟩, q1, q2⟩, ?_⟩
    by_cases hbig : 18446744073709551616 ≤ (ds.getD 6 default).toInt * (ds.getD 4 default).toInt - wof (ds.getD 0 default) (ds.getD 1 default)
    · rw [if_pos (by omega), cx_far b1.2 hbig]
      exact AgreeS.refl _ _
    · rw [if_neg (by omega)]
      unfold cx
      rw [if_neg hlt, Int.emod_eq_of_lt (by omega) (by omega)]
      exact AgreeS.refl _ _)
/-- compositor/compositorref01.CompareExact -/
def c60 : Con := { f := 60, ps := [.agg [.int .u64, .int .u64, .int .u64, .int .u64, .int .u64], .at (.int .u64)], rs := [.at (.int .i64), .at (.bool)] }
def t60 : Lt :=
 (.call 0 [.v 0, .v 1, .v 2, .v 3, .v 4] 1
 (.ask (.v 6)
  (.call 1 [.v 0, .v 1, .v 2, .v 3, .v 4, .lit (.bool false), .v 5] 1
  (.ret (.done [.v 7, .lit (.bool true)])))
  (.ret (.done [.lit (.int (0)), .lit (.bool false)]))))
theorem t60_eq : ((fnC (PV.fast Tryz.prog) G (([s111, s112] : List Sx.Spec).map (·.con)) [] 300 c60 20).prune []).toTr = t60.expand (vars 6) := by kernel_rfl

def s60 : Sx.Spec := { con := c60, pre := fun ds => u64s ds 6 0 ∧ (ds.getD 0 default).toInt < 4294967296 ∧ qr ds 2 3 ∧ 1 ≤ (ds.getD 4 default).toInt, fn := fun ds => [.int (cx (wof (ds.getD 0 default) (ds.getD 1 default)) (ds.getD 2 default).toInt (ds.getD 3 default).toInt (ds.getD 4 default).toInt (ds.getD 5 default).toInt), .bool true] }
theorem s112_fn (a b c d e f g : D) : s112.fn [a, b, c, d, e, f, g] = [.int (cx (wof a b) c.toInt d.toInt e.toInt g.toInt)] := rfl
theorem s112_pre (a b c d e f g : D) : s112.pre [a, b, c, d, e, f, g] = ((((0 ≤ a.toInt ∧ a.toInt < 18446744073709551616) ∧ (0 ≤ b.toInt ∧ b.toInt < 18446744073709551616) ∧ (0 ≤ c.toInt ∧ c.toInt < 18446744073709551616) ∧ (0 ≤ d.toInt ∧ d.toInt < 18446744073709551616) ∧ (0 ≤ e.toInt ∧ e.toInt < 18446744073709551616) ∧ True) ∧ (0 ≤ g.toInt ∧ g.toInt < 18446744073709551616) ∧ f.toBool = false) ∧ c.toInt < 70368744177664 ∧ d.toInt < 8589934592) := rfl
theorem s60_ok : s60.Ok Tryz.prog G := lspec_ok [s111, s112] (by simp only [List.mem_cons, List.not_mem_nil, or_false, forall_eq_or_imp, forall_eq]; exact ⟨s111_ok, s112_ok⟩) s60 300 20 (fun _ h => by cases h) t60 6 t60_eq (by
  intro ds h
  simp only [s60, u64s, Nat.reduceAdd, qr] at h
  obtain ⟨⟨hp1, hp2, hQ, hR, hD, hn, _⟩, h0, ⟨q1, q2⟩, h4⟩ := h
  have hd := decide_eq_true (show (ds.getD 0 default).toInt < 4294967296 ∧ (ds.getD 2 default).toInt < 70368744177664 ∧ (ds.getD 3 default).toInt < 8589934592 ∧ 1 ≤ (ds.getD 4 default).toInt from ⟨h0, q1, q2, h4⟩)
  have hpre : ∀ l, s111.pre l = True := fun _ => rfl
  simp only [t60, Nat.reduceAdd, Lt.holds, Lt.safe, Lt.run, Leaf.at, LeafV.Ok, envOf, resD, T.eval, T.evals, pe_ar, pe_wrap, pe_mn, pe_mx, pe_cm, pe_not, pe_beq, pe_ite, pe_len, pe_slen, pe_sat, pe_xt, pe_call, fnOf, preOf, cm_eq, cm_ne, cm_lt, cm_le, cm_gt, cm_ge, ar_add, ar_sub, ar_mul, ar_quo, ar_rem, ar_shl, ar_shr, wrap_u64, wrap_i64, wrap_u8, wrap_u16, List.getD_cons_zero, List.getD_cons_succ, List.cons_append, List.nil_append, D.toInt_int, D.toBool_bool, decide_eq_true_eq, decide_eq_false_iff_not, Bool.not_eq_true, Bool.not_eq_false, s111_fn, hpre, s112_pre, s112_fn, hd, Bool.true_eq_false, false_implies, and_true, true_implies, true_and]
  refine ⟨⟨⟨⟨hp1, hp2, hQ, hR, hD⟩, hn⟩, q1, q2⟩, AgreeS.refl _ _⟩)
theorem s60_fn (a b c d e f : D) : s60.fn [a, b, c, d, e, f] = [.int (cx (wof a b) c.toInt d.toInt e.toInt f.toInt), .bool true] := rfl
/-- compositor/compositorref06.wide -/
def c56 : Con := { f := 56, ps := [.at (.int .u64), .at (.int .u64), .at (.int .u64)], rs := [.agg [.int .u64, .int .u64]] }
def t56 : Lt :=
 (.call 1 [.v 0, .v 1] 2
 (.call 0 [.v 3, .v 4, .v 2] 3
 (.ret (.done [.v 5, .v 6]))))
theorem t56_eq : ((fnC (PV.fast Tryz.prog) G (([s59, s107] : List Sx.Spec).map (·.con)) [] 300 c56 20).prune []).toTr = t56.expand (vars 3) := by kernel_rfl

def s56 : Sx.Spec := { con := c56, pre := fun ds => u64s ds 3 0 ∧ (ds.getD 0 default).toInt * (ds.getD 1 default).toInt * (ds.getD 2 default).toInt < 340282366920938463463374607431768211456, fn := fun ds => wd ((ds.getD 0 default).toInt * (ds.getD 1 default).toInt * (ds.getD 2 default).toInt) }
theorem s56_ok : s56.Ok Tryz.prog G := lspec_ok [s59, s107] (by simp only [List.mem_cons, List.not_mem_nil, or_false, forall_eq_or_imp, forall_eq]; exact ⟨s59_ok, s107_ok⟩) s56 300 20 (fun _ h => by cases h) t56 3 t56_eq (by
  intro ds h
  simp only [s56, u64s, Nat.reduceAdd] at h
  obtain ⟨⟨ha, hb, hc, _⟩, hs⟩ := h
  have e1 : s59.fn [.int ((ds.getD 0 default).toInt * (ds.getD 1 default).toInt / 18446744073709551616), .int ((ds.getD 0 default).toInt * (ds.getD 1 default).toInt % 18446744073709551616), ds.getD 2 default] = _ := s59_yes (by rw [wd_wof]; exact hs)
  rw [wd_wof] at e1
  have b1 := mul_u ha hb
  simp only [t56, Nat.reduceAdd, Lt.holds, Lt.safe, Lt.run, Leaf.at, LeafV.Ok, envOf, resD, T.eval, T.evals, pe_ar, pe_wrap, pe_mn, pe_mx, pe_cm, pe_not, pe_beq, pe_ite, pe_len, pe_slen, pe_sat, pe_xt, pe_call, fnOf, preOf, cm_eq, cm_ne, cm_lt, cm_le, cm_gt, cm_ge, ar_add, ar_sub, ar_mul, ar_quo, ar_rem, ar_shl, ar_shr, wrap_u64, wrap_i64, wrap_u8, wrap_u16, List.getD_cons_zero, List.getD_cons_succ, List.cons_append, List.nil_append, D.toInt_int, D.toBool_bool, decide_eq_true_eq, decide_eq_false_iff_not, Bool.not_eq_true, Bool.not_eq_false, s107_fn, s107_pre, s59_pre, e1]
  exact ⟨⟨ha, hb, trivial⟩, ⟨by omega, by omega, hc, trivial⟩, AgreeS.refl _ _⟩)
theorem s56_fn (a b c : D) : s56.fn [a, b, c] = [.int (a.toInt * b.toInt * c.toInt / 18446744073709551616), .int (a.toInt * b.toInt * c.toInt % 18446744073709551616)] := rfl
theorem s56_pre (a b c : D) : s56.pre [a, b, c] = (((0 ≤ a.toInt ∧ a.toInt < 18446744073709551616) ∧ (0 ≤ b.toInt ∧ b.toInt < 18446744073709551616) ∧ (0 ≤ c.toInt ∧ c.toInt < 18446744073709551616) ∧ True) ∧ a.toInt * b.toInt * c.toInt < 340282366920938463463374607431768211456) := rfl
/-- compositor/compositorref06.exact -/
def c54 : Con := { f := 54, ps := [.at (.int .u64)], rs := [.agg [.int .u64, .int .u64, .int .u64, .int .u64, .int .u64]] }
def t54 : Lt :=
 (.ret (.done [.lit (.int (0)), .v 0, .lit (.int (0)), .lit (.int (0)), .lit (.int (1))]))
def s54 : Sx.Spec := .lauto c54 [] 1 t54 (fun _ => True)
theorem t54_eq : ((fnC (PV.fast Tryz.prog) G (([] : List Sx.Spec).map (·.con)) [] 300 c54 20).prune []).toTr = t54.expand (vars 1) := by kernel_rfl
theorem s54_ok : s54.Ok Tryz.prog G := lauto_ok (by simp) 300 20 t54_eq (by
  intro ds _; simp [t54, Lt.safe, preOf])/-- compositor/compositorref06.IsMode -/
def c53 : Con := { f := 53, ps := [.at (.int .i64)], rs := [.at (.bool)] }
def t53 : Lt :=
 (.ask (.app (.cm .lt) [.v 0, .lit (.int (1))])
  (.ret (.done [.lit (.bool false)]))
  (.ask (.app (.cm .ge) [.v 0, .lit (.int (13))])
   (.ret (.done [.lit (.bool false)]))
   (.need (.app (.cm .ge) [.v 0, .lit (.int (0))])
   (.need (.app (.cm .lt) [.v 0, .lit (.int (13))])
   (.ask (.app (.cm .eq) [.v 0, .lit (.int (12))])
    (.ret (.done [.lit (.bool true)]))
    (.ask (.app (.cm .eq) [.v 0, .lit (.int (11))])
     (.ret (.done [.lit (.bool true)]))
     (.ask (.app (.cm .eq) [.v 0, .lit (.int (10))])
      (.ret (.done [.lit (.bool true)]))
      (.ask (.app (.cm .eq) [.v 0, .lit (.int (9))])
       (.ret (.done [.lit (.bool true)]))
       (.ask (.app (.cm .eq) [.v 0, .lit (.int (8))])
        (.ret (.done [.lit (.bool true)]))
        (.ask (.app (.cm .eq) [.v 0, .lit (.int (7))])
         (.ret (.done [.lit (.bool true)]))
         (.ask (.app (.cm .eq) [.v 0, .lit (.int (6))])
          (.ret (.done [.lit (.bool true)]))
          (.ask (.app (.cm .eq) [.v 0, .lit (.int (5))])
           (.ret (.done [.lit (.bool true)]))
           (.ask (.app (.cm .eq) [.v 0, .lit (.int (4))])
            (.ret (.done [.lit (.bool true)]))
            (.ask (.app (.cm .eq) [.v 0, .lit (.int (3))])
             (.ret (.done [.lit (.bool true)]))
             (.ask (.app (.cm .eq) [.v 0, .lit (.int (2))])
              (.ret (.done [.lit (.bool true)]))
              (.ask (.app (.cm .eq) [.v 0, .lit (.int (1))])
               (.ret (.done [.lit (.bool true)]))
               (.ret (.done [.lit (.bool false)]))))))))))))))))))
def s53 : Sx.Spec := .lauto c53 [] 1 t53 (fun _ => True)
theorem t53_eq : ((fnC (PV.fast Tryz.prog) G (([] : List Sx.Spec).map (·.con)) [] 300 c53 20).prune []).toTr = t53.expand (vars 1) := by kernel_rfl
theorem s53_ok : s53.Ok Tryz.prog G := lauto_ok (by simp) 300 20 t53_eq (by
  intro ds _
  simp only [t53, Nat.reduceAdd, Lt.holds, Lt.safe, Lt.run, Leaf.at, LeafV.Ok, envOf, resD, T.eval, T.evals, pe_ar, pe_wrap, pe_mn, pe_mx, pe_cm, pe_not, pe_beq, pe_ite, pe_len, pe_slen, pe_sat, pe_xt, pe_call, fnOf, preOf, cm_eq, cm_ne, cm_lt, cm_le, cm_gt, cm_ge, ar_add, ar_sub, ar_mul, ar_quo, ar_rem, ar_shl, ar_shr, wrap_u64, wrap_i64, wrap_u8, wrap_u16, List.getD_cons_zero, List.getD_cons_succ, List.cons_append, List.nil_append, D.toInt_int, D.toBool_bool, decide_eq_true_eq, decide_eq_false_iff_not, Bool.not_eq_true, Bool.not_eq_false, and_true]
  refine ⟨fun _ => trivial, fun h1 => ⟨fun _ => trivial, fun h2 => ⟨by omega, by omega, ?_⟩⟩⟩
  simp)
end Go.Proofs.YteaiikmijhikpaaGreatDoor
end
section
namespace Go.Proofs.YteaiikmijhikpaaGreatDoor
open Go Go.Sx Bz
set_option maxRecDepth 100000

def _root_.Bz.Ex.list (x : Ex) : List D := [.int (x.P / 18446744073709551616), .int (x.P % 18446744073709551616), .int x.Q, .int x.R, .int x.Den]
theorem whole_list {p : Int} (h0 : 0 ≤ p) (h : p < 18446744073709551616) : (whole p).list = [.int 0, .int p, .int 0, .int 0, .int 1] := by
  simp only [whole, Ex.list]
  rw [Int.ediv_eq_zero_of_lt h0 h, Int.emod_eq_of_lt h0 h]
theorem md {n : Int} (h0 : 0 ≤ n) (h : n < 18446744073709551616) : n % 18446744073709551616 = n := Int.emod_eq_of_lt h0 h
theorem prods {s a d b : Int} (h1 : Sm s a) (h2 : Sm d b) : (0 ≤ s * b ∧ s * b ≤ 4294836225) ∧ (0 ≤ d * a ∧ d * a ≤ 4294836225) ∧ (0 ≤ s * d ∧ s * d ≤ 4294836225) ∧ (0 ≤ a * b ∧ a * b ≤ 4294836225) ∧
    s * d ≤ s * b ∧ s * d ≤ d * a ∧ s * b ≤ a * b ∧ d * a ≤ a * b := by
  obtain ⟨s0, sa, a1⟩ := h1
  obtain ⟨d0, db, b1⟩ := h2
  have c1 := mul_rng s0 (show s ≤ 65535 by omega) (show 0 ≤ b by omega) b1
  have c2 := mul_rng d0 (show d ≤ 65535 by omega) (show 0 ≤ a by omega) a1
  have c3 := mul_rng s0 (show s ≤ 65535 by omega) d0 (show d ≤ 65535 by omega)
  have c4 := mul_rng (show 0 ≤ a by omega) a1 (show 0 ≤ b by omega) b1
  have c5 : s * d ≤ s * b := Int.mul_le_mul_of_nonneg_left db s0
  have c6 : s * d ≤ a * d := Int.mul_le_mul_of_nonneg_right sa d0
  have c7 : s * b ≤ a * b := Int.mul_le_mul_of_nonneg_right sa (by omega)
  have c8 : a * d ≤ a * b := Int.mul_le_mul_of_nonneg_left db (by omega)
  rw [Int.mul_comm d a]
  omega
theorem hard_rng {s a d b : Int} (h1 : Sm s a) (h2 : Sm d b) : 0 ≤ hardZ s a d b ∧ hardZ s a d b ≤ a * b ∧ (¬ 2 * s ≤ a → 0 ≤ 2 * (b - d) * (a - s) ∧ 2 * (b - d) * (a - s) ≤ a * b) := by
  obtain ⟨p1, p2, p3, p4, p5, p6, p7, p8⟩ := prods h1 h2
  obtain ⟨s0, sa, a1⟩ := h1
  obtain ⟨d0, db, b1⟩ := h2
  have key : ¬ 2 * s ≤ a → 0 ≤ 2 * (b - d) * (a - s) ∧ 2 * (b - d) * (a - s) ≤ a * b := fun h => by
    have := mul_rng (show 0 ≤ 2 * (a - s) by omega) (show 2 * (a - s) ≤ a by omega) (show 0 ≤ b - d by omega) (show b - d ≤ b by omega)
    have e : 2 * (b - d) * (a - s) = 2 * (a - s) * (b - d) := by rw [Int.mul_right_comm]
    omega
  refine ⟨?_, ?_, key⟩
  · unfold hardZ
    split
    · rw [Int.mul_assoc]; omega
    · have := key (by omega); omega
  · unfold hardZ
    split
    · rename_i h
      have := mul_rng (show 0 ≤ 2 * s by omega) h d0 db
      omega
    · have := key (by omega); omega
/-- compositor/compositorref06.hard -/
def c55 : Con := { f := 55, ps := [.at (.int .u64), .at (.int .u64), .at (.int .u64), .at (.int .u64)], rs := [.at (.int .u64)] }
def t55 : Lt :=
 (.ask (.app (.cm .le) [.app (.ar .mul .u64) [.lit (.int (2)), .v 0], .v 1])
  (.ret (.done [.app (.ar .mul .u64) [.app (.ar .mul .u64) [.lit (.int (2)), .v 0], .v 2]]))
  (.ret (.done [.app (.ar .sub .u64) [.app (.ar .mul .u64) [.v 1, .v 3], .app (.ar .mul .u64) [.app (.ar .mul .u64) [.lit (.int (2)), .app (.ar .sub .u64) [.v 3, .v 2]], .app (.ar .sub .u64) [.v 1, .v 0]]]])))
theorem t55_eq : ((fnC (PV.fast Tryz.prog) G (([] : List Sx.Spec).map (·.con)) [] 300 c55 20).prune []).toTr = t55.expand (vars 4) := by kernel_rfl

def s55 : Sx.Spec := { con := c55, pre := fun ds => Sm (ds.getD 0 default).toInt (ds.getD 1 default).toInt ∧ Sm (ds.getD 2 default).toInt (ds.getD 3 default).toInt, fn := fun ds => [.int (hardZ (ds.getD 0 default).toInt (ds.getD 1 default).toInt (ds.getD 2 default).toInt (ds.getD 3 default).toInt)] }
theorem s55_ok : s55.Ok Tryz.prog G := lspec_ok [] (by simp) s55 300 20 (fun _ h => by cases h) t55 4 t55_eq (by
  intro ds h
  obtain ⟨h1, h2⟩ := h
  obtain ⟨p1, p2, p3, p4, p5, p6, p7, p8⟩ := prods h1 h2
  obtain ⟨q1, q2, q3⟩ := hard_rng h1 h2
  have goal : s55.fn ds = [.int (hardZ (ds.getD 0 default).toInt (ds.getD 1 default).toInt (ds.getD 2 default).toInt (ds.getD 3 default).toInt)] := rfl
  rw [goal]
  simp only [t55, Nat.reduceAdd, Lt.holds, Lt.safe, Lt.run, Leaf.at, LeafV.Ok, envOf, resD, T.eval, T.evals, pe_ar, pe_wrap, pe_mn, pe_mx, pe_cm, pe_not, pe_beq, pe_ite, pe_len, pe_slen, pe_sat, pe_xt, pe_call, fnOf, preOf, cm_eq, cm_ne, cm_lt, cm_le, cm_gt, cm_ge, ar_add, ar_sub, ar_mul, ar_quo, ar_rem, ar_shl, ar_shr, wrap_u64, wrap_i64, wrap_u8, wrap_u16, List.getD_cons_zero, List.getD_cons_succ, List.cons_append, List.nil_append, D.toInt_int, D.toBool_bool, decide_eq_true_eq, decide_eq_false_iff_not, Bool.not_eq_true, Bool.not_eq_false]
  generalize (ds.getD 0 default).toInt = s at *
  generalize (ds.getD 1 default).toInt = a at *
  generalize (ds.getD 2 default).toInt = d at *
  generalize (ds.getD 3 default).toInt = b at *
  obtain ⟨s0, sa, a1⟩ := h1
  obtain ⟨d0, db, b1⟩ := h2
  rw [md (n := 2 * s) (by omega) (by omega), md (n := a * b) (by omega) (by omega), md (n := b - d) (by omega) (by omega), md (n := a - s) (by omega) (by omega), md (n := 2 * (b - d)) (by omega) (by omega)]
  have e := Int.mul_assoc 2 s d
  refine ⟨fun hc => ?_, fun hc => ?_⟩
  · rw [md (by omega) (by omega)]
    unfold hardZ; rw [if_pos hc]; exact AgreeS.refl _ _
  · have := q3 hc
    rw [md (n := 2 * (b - d) * (a - s)) (by omega) (by omega), md (by omega) (by omega)]
    unfold hardZ; rw [if_neg hc]; exact AgreeS.refl _ _)
theorem s55_fn (a b c d : D) : s55.fn [a, b, c, d] = [.int (hardZ a.toInt b.toInt c.toInt d.toInt)] := rfl
theorem s55_pre (a b c d : D) : s55.pre [a, b, c, d] = (Sm a.toInt b.toInt ∧ Sm c.toInt d.toInt) := rfl
theorem s54_fn (a : D) : s54.fn [a] = [.int 0, a, .int 0, .int 0, .int 1] := rfl
theorem s53_fn (m : D) (h : 1 ≤ m.toInt ∧ m.toInt ≤ 12) : s53.fn [m] = [.bool true] := by
  have e : s53.fn [m] = t53.run (fnOf []) (envOf 1 [m]) := rfl
  rw [e]
  simp only [t53, Nat.reduceAdd, Lt.holds, Lt.safe, Lt.run, Leaf.at, LeafV.Ok, envOf, resD, T.eval, T.evals, pe_ar, pe_wrap, pe_mn, pe_mx, pe_cm, pe_not, pe_beq, pe_ite, pe_len, pe_slen, pe_sat, pe_xt, pe_call, fnOf, preOf, cm_eq, cm_ne, cm_lt, cm_le, cm_gt, cm_ge, ar_add, ar_sub, ar_mul, ar_quo, ar_rem, ar_shl, ar_shr, wrap_u64, wrap_i64, wrap_u8, wrap_u16, List.getD_cons_zero, List.getD_cons_succ, List.cons_append, List.nil_append, D.toInt_int, D.toBool_bool, decide_eq_true_eq, decide_eq_false_iff_not, Bool.not_eq_true, Bool.not_eq_false]
  have cs : m.toInt = 1 ∨ m.toInt = 2 ∨ m.toInt = 3 ∨ m.toInt = 4 ∨ m.toInt = 5 ∨ m.toInt = 6 ∨ m.toInt = 7 ∨ m.toInt = 8 ∨ m.toInt = 9 ∨ m.toInt = 10 ∨ m.toInt = 11 ∨ m.toInt = 12 := by omega
  rcases cs with c | c | c | c | c | c | c | c | c | c | c | c <;> rw [c] <;> rfl
/-- compositor/compositorref06.soft -/
def c58 : Con := { f := 58, ps := [.at (.int .u64), .at (.int .u64), .at (.int .u64), .at (.int .u64)], rs := [.agg [.int .u64, .int .u64, .int .u64, .int .u64, .int .u64]] }
def t58 : Lt :=
 (.ask (.app (.cm .eq) [.v 3, .lit (.int (0))])
  (.call 0 [.lit (.int (0))] 0
  (.ret (.done [.lit (.int (0)), .lit (.int (0)), .lit (.int (0)), .lit (.int (0)), .lit (.int (1))])))
  (.ask (.app (.cm .le) [.app (.ar .mul .u64) [.lit (.int (2)), .v 0], .v 1])
   (.call 1 [.app (.ar .mul .u64) [.v 2, .v 1], .v 3, .lit (.int (1))] 2
   (.call 1 [.app (.ar .mul .u64) [.app (.ar .sub .u64) [.v 1, .app (.ar .mul .u64) [.lit (.int (2)), .v 0]], .v 2], .app (.ar .sub .u64) [.v 3, .v 2], .lit (.int (1))] 2
   (.call 2 [.v 4, .v 5, .v 6, .v 7] 3
   (.ret (.done [.v 8, .v 9, .lit (.int (0)), .lit (.int (0)), .v 3])))))
   (.ask (.app (.cm .le) [.app (.ar .mul .u64) [.lit (.int (4)), .v 2], .v 3])
    (.call 1 [.app (.ar .mul .u64) [.v 2, .v 1], .app (.ar .mul .u64) [.v 3, .v 3], .lit (.int (1))] 2
    (.call 1 [.app (.ar .mul .u64) [.app (.ar .sub .u64) [.app (.ar .mul .u64) [.lit (.int (2)), .v 0], .v 1], .v 2], .app (.ar .sub .u64) [.app (.ar .add .u64) [.app (.ar .mul .u64) [.app (.ar .mul .u64) [.lit (.int (16)), .v 2], .v 2], .app (.ar .mul .u64) [.app (.ar .mul .u64) [.lit (.int (3)), .v 3], .v 3]], .app (.ar .mul .u64) [.app (.ar .mul .u64) [.lit (.int (12)), .v 2], .v 3]], .lit (.int (1))] 2
    (.call 3 [.v 4, .v 5, .v 6, .v 7] 3
    (.ret (.done [.v 8, .v 9, .lit (.int (0)), .lit (.int (0)), .app (.ar .mul .u64) [.v 3, .v 3]])))))
    (.ret (.done [.lit (.int (0)), .app (.ar .mul .u64) [.app (.ar .mul .u64) [.lit (.int (2)), .v 2], .app (.ar .sub .u64) [.v 1, .v 0]], .app (.ar .sub .u64) [.app (.ar .mul .u64) [.lit (.int (2)), .v 0], .v 1], .app (.ar .mul .u64) [.v 2, .v 3], .lit (.int (1))])))))
theorem t58_eq : ((fnC (PV.fast Tryz.prog) G (([s54, s56, s57, s110] : List Sx.Spec).map (·.con)) [] 300 c58 20).prune []).toTr = t58.expand (vars 4) := by kernel_rfl

def s58 : Sx.Spec := { con := c58, pre := fun ds => Sm (ds.getD 0 default).toInt (ds.getD 1 default).toInt ∧ Sm (ds.getD 2 default).toInt (ds.getD 3 default).toInt, fn := fun ds => (softZ (ds.getD 0 default).toInt (ds.getD 1 default).toInt (ds.getD 2 default).toInt (ds.getD 3 default).toInt).list }
theorem s58_ok : s58.Ok Tryz.prog G := lspec_ok [s54, s56, s57, s110] (by simp only [List.mem_cons, List.not_mem_nil, or_false, forall_eq_or_imp, forall_eq]; exact ⟨s54_ok, s56_ok, s57_ok, s110_ok⟩) s58 300 20 (fun _ h => by cases h) t58 4 t58_eq (by
  intro ds h
  obtain ⟨h1, h2⟩ := h
  obtain ⟨p1, p2, p3, p4, p5, p6, p7, p8⟩ := prods h1 h2
  have goal : s58.fn ds = (softZ (ds.getD 0 default).toInt (ds.getD 1 default).toInt (ds.getD 2 default).toInt (ds.getD 3 default).toInt).list := rfl
  have hpre : ∀ l, s54.pre l = True := fun _ => rfl
  rw [goal]
  have eb : (ds.getD 3 default).toInt = (ds.getD 3 default).toInt := rfl
  simp only [t58, Nat.reduceAdd, Lt.holds, Lt.safe, Lt.run, Leaf.at, LeafV.Ok, envOf, resD, T.eval, T.evals, pe_ar, pe_wrap, pe_mn, pe_mx, pe_cm, pe_not, pe_beq, pe_ite, pe_len, pe_slen, pe_sat, pe_xt, pe_call, fnOf, preOf, cm_eq, cm_ne, cm_lt, cm_le, cm_gt, cm_ge, ar_add, ar_sub, ar_mul, ar_quo, ar_rem, ar_shl, ar_shr, wrap_u64, wrap_i64, wrap_u8, wrap_u16, List.getD_cons_zero, List.getD_cons_succ, List.cons_append, List.nil_append, D.toInt_int, D.toBool_bool, decide_eq_true_eq, decide_eq_false_iff_not, Bool.not_eq_true, Bool.not_eq_false, hpre, s56_pre, s56_fn, s57_pre, s110_pre, true_and, Int.mul_one]
  generalize hs : (ds.getD 0 default).toInt = s at *
  generalize ha : (ds.getD 1 default).toInt = a at *
  generalize hd : (ds.getD 2 default).toInt = d at *
  generalize hb : (ds.getD 3 default).toInt = b at *
  obtain ⟨s0, sa, a1⟩ := h1
  obtain ⟨d0, db, b1⟩ := h2
  have bb := mul_rng (show 0 ≤ b by omega) b1 (show 0 ≤ b by omega) b1
  have db2 := mul_rng d0 (show d ≤ 65535 by omega) (show 0 ≤ b by omega) b1
  rw [md (n := 2 * s) (by omega) (by omega), md (n := d * a) (by omega) (by omega), md (n := b - d) (by omega) (by omega), md (n := 4 * d) (by omega) (by omega), md (n := 2 * d) (by omega) (by omega), md (n := a - s) (by omega) (by omega),
    md (n := b * b) (by omega) (by omega), md (n := d * b) (by omega) (by omega), md (n := 3 * b) (by omega) (by omega), md (n := 12 * d) (by omega) (by omega), md (n := 16 * d) (by omega) (by omega)]
  have e3 : 3 * b * b = 3 * (b * b) := Int.mul_assoc _ _ _
  have e12 : 12 * d * b = 12 * (d * b) := Int.mul_assoc _ _ _
  have e16 : 16 * d * d = 16 * (d * d) := Int.mul_assoc _ _ _
  have dd := mul_rng d0 (show d ≤ 65535 by omega) d0 (show d ≤ 65535 by omega)
  unfold softZ
  refine ⟨fun hc => ?_, fun hc => ⟨fun hc2 => ?_, fun hc2 => ⟨fun hc3 => ?_, fun hc3 => ?_⟩⟩⟩
  · rw [if_pos hc]
    exact AgreeS.refl _ _
  · rw [if_neg hc, if_pos hc2]
    have b0 := mul_rng (show 0 ≤ a - 2 * s by omega) (show a - 2 * s ≤ a by omega) d0 (show d ≤ d by omega)
    rw [Int.mul_comm a d] at b0
    rw [md (n := a - 2 * s) (by omega) (by omega), md (n := (a - 2 * s) * d) (by omega) (by omega)]
    have g1 := mul_rng p2.1 p2.2 (show 0 ≤ b by omega) b1
    have g2 := mul_rng b0.1 b0.2 (show 0 ≤ b - d by omega) (show b - d ≤ b by omega)
    obtain ⟨r1, r2⟩ := wd_rng g1.1 (by omega)
    obtain ⟨r3, r4⟩ := wd_rng g2.1 (by omega)
    rw [s57_yes (by rw [wd_wof, wd_wof]; exact g2.2), wd_wof, wd_wof]
    exact ⟨⟨⟨⟨by omega, by omega⟩, ⟨by omega, by omega⟩, by decide, by decide⟩, by omega⟩, ⟨⟨⟨by omega, by omega⟩, ⟨by omega, by omega⟩, by decide, by decide⟩, by omega⟩, ⟨r1, r2, r3, r4, trivial⟩, ⟨⟨rfl, rfl, rfl, rfl, hb, trivial⟩, trivial⟩⟩
  · rw [if_neg hc, if_neg hc2, if_pos hc3]
    have b0 := mul_rng (show 0 ≤ 2 * s - a by omega) (show 2 * s - a ≤ a by omega) d0 (show d ≤ d by omega)
    rw [Int.mul_comm a d] at b0
    have f1 : d * (4 * d) ≤ d * b := Int.mul_le_mul_of_nonneg_left hc3 d0
    have f2 : d * (4 * d) = 4 * (d * d) := by rw [← Int.mul_assoc, Int.mul_comm d 4, Int.mul_assoc]
    have f3 : d * b * 4 ≤ b * b := by
      have := Int.mul_le_mul_of_nonneg_right hc3 (show 0 ≤ b by omega)
      have e : 4 * d * b = d * b * 4 := by rw [Int.mul_assoc, Int.mul_comm]
      omega
    rw [md (n := 2 * s - a) (by omega) (by omega), md (n := (2 * s - a) * d) (by omega) (by omega), md (n := 16 * d * d) (by omega) (by omega), md (n := 3 * b * b) (by omega) (by omega), md (n := 12 * d * b) (by omega) (by omega),
      md (n := 16 * d * d + 3 * b * b) (by omega) (by omega), md (n := 16 * d * d + 3 * b * b - 12 * d * b) (by omega) (by omega)]
    have g1 := mul_rng p2.1 p2.2 bb.1 bb.2
    have g2 := mul_rng b0.1 (show (2 * s - a) * d ≤ 4294836225 by omega) (show 0 ≤ 16 * d * d + 3 * b * b - 12 * d * b by omega) (show 16 * d * d + 3 * b * b - 12 * d * b ≤ 12884508675 by omega)
    obtain ⟨r1, r2⟩ := wd_rng g1.1 (by omega)
    obtain ⟨r3, r4⟩ := wd_rng g2.1 (by omega)
    rw [s110_yes (by rw [wd_wof, wd_wof]; omega), wd_wof, wd_wof]
    exact ⟨⟨⟨⟨by omega, by omega⟩, ⟨by omega, by omega⟩, by decide, by decide⟩, by omega⟩, ⟨⟨⟨by omega, by omega⟩, ⟨by omega, by omega⟩, by decide, by decide⟩, by omega⟩, ⟨r1, r2, r3, r4, trivial⟩, AgreeS.refl _ _⟩
  · rw [if_neg hc, if_neg hc2, if_neg hc3]
    have g1 := mul_rng (show 0 ≤ 2 * d by omega) (show 2 * d ≤ 131070 by omega) (show 0 ≤ a - s by omega) (show a - s ≤ 65535 by omega)
    rw [md (n := 2 * s - a) (by omega) (by omega), md (n := 2 * d * (a - s)) (by omega) (by omega)]
    simp only [Ex.list]
    rw [Int.ediv_eq_zero_of_lt g1.1 (by omega), md g1.1 (by omega)]
    exact AgreeS.refl _ _)
theorem s58_fn (a b c d : D) : s58.fn [a, b, c, d] = (softZ a.toInt b.toInt c.toInt d.toInt).list := rfl
theorem s58_pre (a b c d : D) : s58.pre [a, b, c, d] = (Sm a.toInt b.toInt ∧ Sm c.toInt d.toInt) := rfl
end Go.Proofs.YteaiikmijhikpaaGreatDoor
end
section
namespace Go.Proofs.YteaiikmijhikpaaGreatDoor
open Go Go.Sx Bz
set_option maxRecDepth 100000
/-- compositor/compositorref06.Blend -/
def c22 : Con := { f := 22, ps := [.at (.int .i64), .at (.int .u16), .at (.int .u16), .at (.int .u16), .at (.int .u16)], rs := [.agg [.int .u64, .int .u64, .int .u64, .int .u64, .int .u64], .at (.bool)] }
def t22 : Lt :=
 (.call 0 [.v 0] 1
 (.ask (.v 5)
  (.ask (.app (.cm .gt) [.v 1, .v 2])
   (.ret (.done [.lit (.int (0)), .lit (.int (0)), .lit (.int (0)), .lit (.int (0)), .lit (.int (0)), .lit (.bool false)]))
   (.ask (.app (.cm .gt) [.v 3, .v 4])
    (.ret (.done [.lit (.int (0)), .lit (.int (0)), .lit (.int (0)), .lit (.int (0)), .lit (.int (0)), .lit (.bool false)]))
    (.ask (.app (.cm .eq) [.v 0, .lit (.int (1))])
     (.call 1 [.app (.ar .mul .u64) [.app (.wrap .u64) [.v 1], .app (.wrap .u64) [.v 4]]] 5
     (.ret (.done [.v 6, .v 7, .v 8, .v 9, .v 10, .lit (.bool true)])))
     (.ask (.app (.cm .eq) [.v 0, .lit (.int (2))])
      (.call 1 [.app (.ar .mul .u64) [.app (.wrap .u64) [.v 1], .app (.wrap .u64) [.v 3]]] 5
      (.ret (.done [.v 6, .v 7, .v 8, .v 9, .v 10, .lit (.bool true)])))
      (.ask (.app (.cm .eq) [.v 0, .lit (.int (3))])
       (.call 1 [.app (.ar .sub .u64) [.app (.ar .add .u64) [.app (.ar .mul .u64) [.app (.wrap .u64) [.v 1], .app (.wrap .u64) [.v 4]], .app (.ar .mul .u64) [.app (.wrap .u64) [.v 3], .app (.wrap .u64) [.v 2]]], .app (.ar .mul .u64) [.app (.wrap .u64) [.v 1], .app (.wrap .u64) [.v 3]]]] 5
       (.ret (.done [.v 6, .v 7, .v 8, .v 9, .v 10, .lit (.bool true)])))
       (.ask (.app (.cm .eq) [.v 0, .lit (.int (4))])
        (.call 2 [.app (.wrap .u64) [.v 3], .app (.wrap .u64) [.v 4], .app (.wrap .u64) [.v 1], .app (.wrap .u64) [.v 2]] 1
        (.call 1 [.v 6] 5
        (.ret (.done [.v 7, .v 8, .v 9, .v 10, .v 11, .lit (.bool true)]))))
        (.ask (.app (.cm .eq) [.v 0, .lit (.int (5))])
         (.call 1 [.app .mn [.app (.ar .mul .u64) [.app (.wrap .u64) [.v 1], .app (.wrap .u64) [.v 4]], .app (.ar .mul .u64) [.app (.wrap .u64) [.v 3], .app (.wrap .u64) [.v 2]]]] 5
         (.ret (.done [.v 6, .v 7, .v 8, .v 9, .v 10, .lit (.bool true)])))
         (.ask (.app (.cm .eq) [.v 0, .lit (.int (6))])
          (.call 1 [.app .mx [.app (.ar .mul .u64) [.app (.wrap .u64) [.v 1], .app (.wrap .u64) [.v 4]], .app (.ar .mul .u64) [.app (.wrap .u64) [.v 3], .app (.wrap .u64) [.v 2]]]] 5
          (.ret (.done [.v 6, .v 7, .v 8, .v 9, .v 10, .lit (.bool true)])))
          (.ask (.app (.cm .eq) [.v 0, .lit (.int (7))])
           (.ask (.app (.cm .eq) [.app (.wrap .u64) [.v 3], .lit (.int (0))])
            (.call 1 [.lit (.int (0))] 0
            (.ret (.done [.lit (.int (0)), .lit (.int (0)), .lit (.int (0)), .lit (.int (0)), .lit (.int (1)), .lit (.bool true)])))
            (.ask (.app (.cm .ge) [.app (.ar .mul .u64) [.app (.wrap .u64) [.v 3], .app (.wrap .u64) [.v 2]], .app (.ar .mul .u64) [.app (.wrap .u64) [.v 4], .app (.ar .sub .u64) [.app (.wrap .u64) [.v 2], .app (.wrap .u64) [.v 1]]]])
             (.call 1 [.app (.ar .mul .u64) [.app (.wrap .u64) [.v 2], .app (.wrap .u64) [.v 4]]] 5
             (.ret (.done [.v 6, .v 7, .v 8, .v 9, .v 10, .lit (.bool true)])))
             (.call 3 [.app (.wrap .u64) [.v 2], .app (.wrap .u64) [.v 2], .app (.wrap .u64) [.v 3]] 2
             (.ret (.done [.v 6, .v 7, .lit (.int (0)), .lit (.int (0)), .app (.ar .sub .u64) [.app (.wrap .u64) [.v 2], .app (.wrap .u64) [.v 1]], .lit (.bool true)])))))
           (.ask (.app (.cm .eq) [.v 0, .lit (.int (8))])
            (.ask (.app (.cm .eq) [.app (.wrap .u64) [.v 3], .app (.wrap .u64) [.v 4]])
             (.call 1 [.app (.ar .mul .u64) [.app (.wrap .u64) [.v 2], .app (.wrap .u64) [.v 4]]] 5
             (.ret (.done [.v 6, .v 7, .v 8, .v 9, .v 10, .lit (.bool true)])))
             (.ask (.app (.cm .ge) [.app (.ar .mul .u64) [.app (.ar .sub .u64) [.app (.wrap .u64) [.v 4], .app (.wrap .u64) [.v 3]], .app (.wrap .u64) [.v 2]], .app (.ar .mul .u64) [.app (.wrap .u64) [.v 1], .app (.wrap .u64) [.v 4]]])
              (.call 1 [.lit (.int (0))] 0
              (.ret (.done [.lit (.int (0)), .lit (.int (0)), .lit (.int (0)), .lit (.int (0)), .lit (.int (1)), .lit (.bool true)])))
              (.call 3 [.app (.wrap .u64) [.v 2], .app (.wrap .u64) [.v 4], .app (.wrap .u64) [.v 1]] 2
              (.call 3 [.app (.ar .sub .u64) [.app (.wrap .u64) [.v 4], .app (.wrap .u64) [.v 3]], .app (.wrap .u64) [.v 2], .app (.wrap .u64) [.v 2]] 2
              (.call 4 [.v 6, .v 7, .v 8, .v 9] 3
              (.ret (.done [.v 10, .v 11, .lit (.int (0)), .lit (.int (0)), .app (.wrap .u64) [.v 1], .lit (.bool true)])))))))
            (.ask (.app (.cm .eq) [.v 0, .lit (.int (9))])
             (.call 2 [.app (.wrap .u64) [.v 1], .app (.wrap .u64) [.v 2], .app (.wrap .u64) [.v 3], .app (.wrap .u64) [.v 4]] 1
             (.call 1 [.v 6] 5
             (.ret (.done [.v 7, .v 8, .v 9, .v 10, .v 11, .lit (.bool true)]))))
             (.ask (.app (.cm .eq) [.v 0, .lit (.int (10))])
              (.call 5 [.app (.wrap .u64) [.v 1], .app (.wrap .u64) [.v 2], .app (.wrap .u64) [.v 3], .app (.wrap .u64) [.v 4]] 5
              (.ret (.done [.v 6, .v 7, .v 8, .v 9, .v 10, .lit (.bool true)])))
              (.ask (.app (.cm .eq) [.v 0, .lit (.int (11))])
               (.call 1 [.app (.ar .sub .u64) [.app .mx [.app (.ar .mul .u64) [.app (.wrap .u64) [.v 1], .app (.wrap .u64) [.v 4]], .app (.ar .mul .u64) [.app (.wrap .u64) [.v 3], .app (.wrap .u64) [.v 2]]], .app .mn [.app (.ar .mul .u64) [.app (.wrap .u64) [.v 1], .app (.wrap .u64) [.v 4]], .app (.ar .mul .u64) [.app (.wrap .u64) [.v 3], .app (.wrap .u64) [.v 2]]]]] 5
               (.ret (.done [.v 6, .v 7, .v 8, .v 9, .v 10, .lit (.bool true)])))
               (.call 1 [.app (.ar .sub .u64) [.app (.ar .add .u64) [.app (.ar .mul .u64) [.app (.wrap .u64) [.v 1], .app (.wrap .u64) [.v 4]], .app (.ar .mul .u64) [.app (.wrap .u64) [.v 3], .app (.wrap .u64) [.v 2]]], .app (.ar .mul .u64) [.app (.ar .mul .u64) [.lit (.int (2)), .app (.wrap .u64) [.v 1]], .app (.wrap .u64) [.v 3]]]] 5
               (.ret (.done [.v 6, .v 7, .v 8, .v 9, .v 10, .lit (.bool true)]))))))))))))))))
  (.ret (.done [.lit (.int (0)), .lit (.int (0)), .lit (.int (0)), .lit (.int (0)), .lit (.int (0)), .lit (.bool false)]))))
theorem t22_eq : ((fnC (PV.fast Tryz.prog) G (([s53, s54, s55, s56, s57, s58] : List Sx.Spec).map (·.con)) [] 300 c22 20).prune []).toTr = t22.expand (vars 5) := by kernel_rfl

def s22 : Sx.Spec := { con := c22, pre := fun ds => Kn (ds.getD 0 default).toInt ∧ Sm (ds.getD 1 default).toInt (ds.getD 2 default).toInt ∧ Sm (ds.getD 3 default).toInt (ds.getD 4 default).toInt, fn := fun ds => (blZ (ds.getD 0 default).toInt (ds.getD 1 default).toInt (ds.getD 2 default).toInt (ds.getD 3 default).toInt (ds.getD 4 default).toInt).list ++ [.bool true] }
theorem s22_ok : s22.Ok Tryz.prog G := lspec_ok [s53, s54, s55, s56, s57, s58] (by simp only [List.mem_cons, List.not_mem_nil, or_false, forall_eq_or_imp, forall_eq]; exact ⟨s53_ok, s54_ok, s55_ok, s56_ok, s57_ok, s58_ok⟩) s22 300 20 (fun _ h => by cases h) t22 5 t22_eq (by
  intro ds h
  obtain ⟨hm, h1, h2⟩ := h
  obtain ⟨p1, p2, p3, p4, p5, p6, p7, p8⟩ := prods h1 h2
  obtain ⟨q1, q2, q3⟩ := hard_rng h1 h2
  obtain ⟨q4, q5, q6⟩ := hard_rng h2 h1
  have h3 := h1
  have h4 := h2
  have goal : s22.fn ds = (blZ (ds.getD 0 default).toInt (ds.getD 1 default).toInt (ds.getD 2 default).toInt (ds.getD 3 default).toInt (ds.getD 4 default).toInt).list ++ [.bool true] := rfl
  have hp53 : ∀ l, s53.pre l = True := fun _ => rfl
  have hp54 : ∀ l, s54.pre l = True := fun _ => rfl
  have f53 : s53.fn [ds.getD 0 default] = [.bool true] := s53_fn _ (by unfold Kn at hm; omega)
  rw [goal]
  obtain ⟨s0, sa, a1⟩ := h1
  obtain ⟨d0, db, b1⟩ := h2
  unfold Kn at hm
  simp only [t22, Nat.reduceAdd, Lt.holds, Lt.safe, Lt.run, Leaf.at, LeafV.Ok, envOf, resD, T.eval, T.evals, pe_ar, pe_wrap, pe_mn, pe_mx, pe_cm, pe_not, pe_beq, pe_ite, pe_len, pe_slen, pe_sat, pe_xt, pe_call, fnOf, preOf, cm_eq, cm_ne, cm_lt, cm_le, cm_gt, cm_ge, ar_add, ar_sub, ar_mul, ar_quo, ar_rem, ar_shl, ar_shr, wrap_u64, wrap_i64, wrap_u8, wrap_u16, List.getD_cons_zero, List.getD_cons_succ, List.cons_append, List.nil_append, D.toInt_int, D.toBool_bool, decide_eq_true_eq, decide_eq_false_iff_not, Bool.not_eq_true, Bool.not_eq_false, hp53, hp54, f53, s54_fn, s55_fn, s55_pre, s58_fn, s58_pre, true_implies, true_and, Bool.true_eq_false, false_implies, and_true]
  generalize (ds.getD 0 default).toInt = m at *
  generalize (ds.getD 1 default).toInt = s at *
  generalize (ds.getD 2 default).toInt = a at *
  generalize (ds.getD 3 default).toInt = d at *
  generalize (ds.getD 4 default).toInt = b at *
  have n1 : (a < s) = False := eq_false (by omega)
  have n2 : (b < d) = False := eq_false (by omega)
  have w1 : s % 18446744073709551616 = s := md (by omega) (by omega)
  have w2 : a % 18446744073709551616 = a := md (by omega) (by omega)
  have w3 : d % 18446744073709551616 = d := md (by omega) (by omega)
  have w4 : b % 18446744073709551616 = b := md (by omega) (by omega)
  have e2 : 2 * s * d = 2 * (s * d) := Int.mul_assoc _ _ _
  have w5 : s * b % 18446744073709551616 = s * b := md (by omega) (by omega)
  have w6 : d * a % 18446744073709551616 = d * a := md (by omega) (by omega)
  have w7 : s * d % 18446744073709551616 = s * d := md (by omega) (by omega)
  have w8 : (s * b + d * a) % 18446744073709551616 = s * b + d * a := md (by omega) (by omega)
  have w9 : (s * b + d * a - s * d) % 18446744073709551616 = s * b + d * a - s * d := md (by omega) (by omega)
  have w10 : 2 * s % 18446744073709551616 = 2 * s := md (by omega) (by omega)
  have w11 : 2 * s * d % 18446744073709551616 = 2 * s * d := md (by omega) (by omega)
  have w12 : (s * b + d * a - 2 * s * d) % 18446744073709551616 = s * b + d * a - 2 * s * d := md (by omega) (by omega)
  have w13 : (max (s * b) (d * a) - min (s * b) (d * a)) % 18446744073709551616 = max (s * b) (d * a) - min (s * b) (d * a) := md (by omega) (by omega)
  simp only [n1, n2, false_implies, true_and, not_false_eq_true, true_implies, w1, w2, w3, w4, w5, w6, w7, w8, w9, w10, w11, w12, w13]
  have cs : m = 1 ∨ m = 2 ∨ m = 3 ∨ m = 4 ∨ m = 5 ∨ m = 6 ∨ m = 9 ∨ m = 10 ∨ m = 11 ∨ m = 12 := by omega
  rcases cs with e | e | e | e | e | e | e | e | e | e <;> subst e <;> simp only [Int.reduceEq, true_implies, false_implies, not_true_eq_false, not_false_eq_true, true_and, and_true, blZ, if_true, if_false, h3, h4]
  · rw [whole_list (by omega) (by omega)]; exact AgreeS.refl _ _
  · rw [whole_list (by omega) (by omega)]; exact AgreeS.refl _ _
  · rw [whole_list (by omega) (by omega)]; exact AgreeS.refl _ _
  · rw [whole_list (by omega) (by rw [Int.mul_comm b a] at q5; omega)]; exact AgreeS.refl _ _
  · rw [whole_list (by omega) (by omega)]; exact AgreeS.refl _ _
  · rw [whole_list (by omega) (by omega)]; exact AgreeS.refl _ _
  · rw [whole_list (by omega) (by omega)]; exact AgreeS.refl _ _
  · exact AgreeS.refl _ _
  · rw [whole_list (by omega) (by omega)]; exact AgreeS.refl _ _
  · rw [whole_list (by omega) (by omega)]; exact AgreeS.refl _ _)
theorem s22_fn (m s a d b : D) : s22.fn [m, s, a, d, b] = (blZ m.toInt s.toInt a.toInt d.toInt b.toInt).list ++ [.bool true] := rfl
theorem s22_pre (m s a d b : D) : s22.pre [m, s, a, d, b] = (Kn m.toInt ∧ Sm s.toInt a.toInt ∧ Sm d.toInt b.toInt) := rfl
/-- compositor/compositorgen.Sample -/
def c52 : Con := { f := 52, ps := [.at (.int .i64), .at (.int .u16)], rs := [.at (.int .u16)] }
def t52 : Lt :=
 (.call 0 [.v 0, .lit (.int (8))] 1
 (.ask (.app (.cm .eq) [.v 2, .lit (.int (0))])
  (.ret (.done [.lit (.int (0))]))
  (.ask (.app (.cm .eq) [.v 2, .lit (.int (1))])
   (.ret (.done [.v 1]))
   (.ask (.app (.cm .eq) [.v 2, .lit (.int (2))])
    (.ret (.done [.v 1]))
    (.ask (.app (.cm .eq) [.v 2, .lit (.int (3))])
     (.call 0 [.app (.ar .quo .i64) [.v 0, .lit (.int (8))], .lit (.int (2))] 1
     (.ret (.done [.app (.wrap .u16) [.app (.ar .quo .i64) [.app (.ar .add .i64) [.app (.wrap .i64) [.v 1], .v 3], .lit (.int (2))]]])))
     (.ask (.app (.cm .eq) [.v 2, .lit (.int (4))])
      (.call 0 [.app (.ar .quo .i64) [.v 0, .lit (.int (8))], .lit (.int (4))] 1
      (.ret (.done [.app (.wrap .u16) [.app .mn [.app (.wrap .i64) [.v 1], .v 3]]])))
      (.call 0 [.app (.ar .quo .i64) [.v 0, .lit (.int (8))], .app (.ar .add .i64) [.app (.wrap .i64) [.v 1], .lit (.int (1))]] 1
      (.ret (.done [.app (.wrap .u16) [.v 3]])))))))))
def s52 : Sx.Spec := .lauto c52 [s9] 2 t52 (fun _ => True)
theorem t52_eq : ((fnC (PV.fast Tryz.prog) G (([s9] : List Sx.Spec).map (·.con)) [] 300 c52 20).prune []).toTr = t52.expand (vars 2) := by kernel_rfl
theorem s52_ok : s52.Ok Tryz.prog G := lauto_ok (by simp only [List.mem_cons, List.not_mem_nil, or_false, forall_eq_or_imp, forall_eq]; exact s9_ok) 300 20 t52_eq (by
  intro ds _; simp [t52, Lt.safe, preOf, p9])
theorem p52 (l : List D) : s52.pre l = True := rfl

/-- compositor/compositorgen.Alpha -/
def c21 : Con := { f := 21, ps := [.at (.int .i64), .at (.int .i64), .at (.int .u16)], rs := [.at (.int .u16), .at (.int .u16)] }
def t21 : Lt :=
 (.call 0 [.v 1, .v 2] 1
 (.call 0 [.v 0, .v 3] 1
 (.ret (.done [.v 4, .v 3]))))
def s21 : Sx.Spec := .lauto c21 [s52] 3 t21 (fun _ => True)
theorem t21_eq : ((fnC (PV.fast Tryz.prog) G (([s52] : List Sx.Spec).map (·.con)) [] 300 c21 20).prune []).toTr = t21.expand (vars 3) := by kernel_rfl
theorem s21_ok : s21.Ok Tryz.prog G := lauto_ok (by simp only [List.mem_cons, List.not_mem_nil, or_false, forall_eq_or_imp, forall_eq]; exact s52_ok) 300 20 t21_eq (by
  intro ds _; simp [t21, Lt.safe, preOf, p52])

theorem s52_val (n : D) (m : Int) (h0 : 0 ≤ m) (h1 : m ≤ 65535) : ∃ r : Int, s52.fn [n, .int m] = [.int r] ∧ 0 ≤ r ∧ r ≤ m := by
  have e : s52.fn [n, .int m] = t52.run (fnOf [s9]) (envOf 2 [n, .int m]) := rfl
  rw [e]
  obtain ⟨r0, e0, b0, b0'⟩ := s9_val n 8 (by omega) (by omega)
  obtain ⟨r1, e1, b1, b1'⟩ := s9_val (.int ((n.toInt.tdiv 8 + 9223372036854775808) % 18446744073709551616 - 9223372036854775808)) 2 (by omega) (by omega)
  obtain ⟨r2, e2, b2, b2'⟩ := s9_val (.int ((n.toInt.tdiv 8 + 9223372036854775808) % 18446744073709551616 - 9223372036854775808)) 4 (by omega) (by omega)
  obtain ⟨r3, e3, b3, b3'⟩ := s9_val (.int ((n.toInt.tdiv 8 + 9223372036854775808) % 18446744073709551616 - 9223372036854775808)) (m + 1) (by omega) (by omega)
  have w1 : (m + 9223372036854775808) % 18446744073709551616 - 9223372036854775808 = m := by omega
  have w2 : (m + 1 + 9223372036854775808) % 18446744073709551616 - 9223372036854775808 = m + 1 := by omega
  simp only [t52, Nat.reduceAdd, Lt.holds, Lt.safe, Lt.run, Leaf.at, LeafV.Ok, envOf, resD, T.eval, T.evals, pe_ar, pe_wrap, pe_mn, pe_mx, pe_cm, pe_not, pe_beq, pe_ite, pe_len, pe_slen, pe_sat, pe_xt, pe_call, fnOf, preOf, cm_eq, cm_ne, cm_lt, cm_le, cm_gt, cm_ge, ar_add, ar_sub, ar_mul, ar_quo, ar_rem, ar_shl, ar_shr, wrap_u64, wrap_i64, wrap_u8, wrap_u16, List.getD_cons_zero, List.getD_cons_succ, List.cons_append, List.nil_append, D.toInt_int, D.toBool_bool, decide_eq_true_eq, decide_eq_false_iff_not, Bool.not_eq_true, Bool.not_eq_false, e0, e1, e2, e3, w1, w2]
  have cs : r0 = 0 ∨ r0 = 1 ∨ r0 = 2 ∨ r0 = 3 ∨ r0 = 4 ∨ 4 < r0 := by omega
  rcases cs with c | c | c | c | c | c
  · rw [c]; exact ⟨0, rfl, by omega, h0⟩
  · rw [c]; exact ⟨m, rfl, h0, Int.le_refl _⟩
  · rw [c]; exact ⟨m, rfl, h0, Int.le_refl _⟩
  · rw [c]
    refine ⟨_, rfl, ?_, ?_⟩
    · omega
    · rw [show (m + r1 + 9223372036854775808) % 18446744073709551616 - 9223372036854775808 = m + r1 by omega, Int.tdiv_eq_ediv_of_nonneg (by omega)]; omega
  · rw [c]
    refine ⟨_, rfl, ?_, ?_⟩ <;> omega
  · rw [decide_eq_false (show ¬ r0 = 0 by omega), decide_eq_false (show ¬ r0 = 1 by omega), decide_eq_false (show ¬ r0 = 2 by omega), decide_eq_false (show ¬ r0 = 3 by omega), decide_eq_false (show ¬ r0 = 4 by omega)]
    refine ⟨_, rfl, ?_, ?_⟩ <;> omega
theorem s21_val (n k : D) (m : Int) (h0 : 0 ≤ m) (h1 : m ≤ 65535) : ∃ s a : Int, s21.fn [n, k, .int m] = [.int s, .int a] ∧ 0 ≤ s ∧ s ≤ a ∧ a ≤ m := by
  have e : s21.fn [n, k, .int m] = t21.run (fnOf [s52]) (envOf 3 [n, k, .int m]) := rfl
  rw [e]
  obtain ⟨a, ea, a0, a1⟩ := s52_val k m h0 h1
  obtain ⟨s, es, s0, s1⟩ := s52_val n a a0 (by omega)
  simp only [t21, Nat.reduceAdd, Lt.holds, Lt.safe, Lt.run, Leaf.at, LeafV.Ok, envOf, resD, T.eval, T.evals, pe_ar, pe_wrap, pe_mn, pe_mx, pe_cm, pe_not, pe_beq, pe_ite, pe_len, pe_slen, pe_sat, pe_xt, pe_call, fnOf, preOf, cm_eq, cm_ne, cm_lt, cm_le, cm_gt, cm_ge, ar_add, ar_sub, ar_mul, ar_quo, ar_rem, ar_shl, ar_shr, wrap_u64, wrap_i64, wrap_u8, wrap_u16, List.getD_cons_zero, List.getD_cons_succ, List.cons_append, List.nil_append, D.toInt_int, D.toBool_bool, decide_eq_true_eq, decide_eq_false_iff_not, Bool.not_eq_true, Bool.not_eq_false, ea, es]
  exact ⟨s, a, rfl, s0, s1, a1⟩
end Go.Proofs.YteaiikmijhikpaaGreatDoor
end
