/- Contracts of the interval functions and of the real blend terms, each for every input that its precondition allows. -/
import Derived.Test.YteaiikmijhikpaaGreatDoorGb
import Derived.Test.YteaiikmijhikpaaGreatDoorPl
set_option linter.all false
section
namespace Go.Proofs.YteaiikmijhikpaaGreatDoor
open Go Go.Sx Bz
set_option maxRecDepth 100000

def iv (a b : D) : Iv.I := ⟨a.toInt, b.toInt⟩
theorem wi {n : Int} (h0 : -9223372036854775808 ≤ n) (h : n < 9223372036854775808) : (n + 9223372036854775808) % 18446744073709551616 - 9223372036854775808 = n := by omega
theorem s24_val (a b : D) : s24.fn [a, b] = [.bool (decide (Iv.Vd (iv a b)))] := by
  have e : s24.fn [a, b] = t24.run (fnOf []) [a, b] := rfl
  rw [e]
  simp only [t24, Nat.reduceAdd, Tr.run, T.eval, T.evals, pe_ar, pe_wrap, pe_mn, pe_mx, pe_cm, pe_not, pe_beq, pe_ite, pe_len, pe_slen, pe_sat, pe_xt, pe_call, fnOf, preOf, cm_eq, cm_ne, cm_lt, cm_le, cm_gt, cm_ge, ar_add, ar_sub, ar_mul, ar_quo, ar_rem, ar_shl, ar_shr, wrap_u64, wrap_i64, wrap_u8, wrap_u16, List.getD_cons_zero, List.getD_cons_succ, List.cons_append, List.nil_append, D.toInt_int, D.toBool_bool, decide_eq_true_eq, decide_eq_false_iff_not, Bool.not_eq_true, Bool.not_eq_false]
  by_cases h1 : a.toInt ≤ b.toInt
  · by_cases h2 : -17592186044416 ≤ a.toInt
    · rw [decide_eq_true h1, decide_eq_true h2]
      simp only
      congr 2
      exact decide_eq_decide.2 ⟨fun h => ⟨h1, h2, h⟩, fun h => h.2.2⟩
    · rw [decide_eq_true h1, decide_eq_false h2, decide_eq_false (show ¬ Iv.Vd (iv a b) from fun h => h2 h.2.1)]
  · rw [decide_eq_false h1, decide_eq_false (show ¬ Iv.Vd (iv a b) from fun h => h1 h.1)]
theorem s24_iv {a b : D} (h : Iv.Vd (iv a b)) : s24.fn [a, b] = [.bool true] := by rw [s24_val, decide_eq_true h]
theorem s24_no {a b : D} (h : ¬ Iv.Vd (iv a b)) : s24.fn [a, b] = [.bool false] := by rw [s24_val, decide_eq_false h]
theorem s169_yes {a b : D} (h : Iv.Vd (iv a b)) : s169.fn [a, b, .bool true] = [a, b, .bool true] := by
  have e : s169.fn [a, b, .bool true] = t169.run (fnOf []) [a, b, .bool true] := rfl
  rw [e]
  unfold Iv.Vd iv at h
  simp only at h
  simp only [t169, Nat.reduceAdd, Tr.run, T.eval, T.evals, pe_ar, pe_wrap, pe_mn, pe_mx, pe_cm, pe_not, pe_beq, pe_ite, pe_len, pe_slen, pe_sat, pe_xt, pe_call, fnOf, preOf, cm_eq, cm_ne, cm_lt, cm_le, cm_gt, cm_ge, ar_add, ar_sub, ar_mul, ar_quo, ar_rem, ar_shl, ar_shr, wrap_u64, wrap_i64, wrap_u8, wrap_u16, List.getD_cons_zero, List.getD_cons_succ, List.cons_append, List.nil_append, D.toInt_int, D.toBool_bool, decide_eq_true_eq, decide_eq_false_iff_not, Bool.not_eq_true, Bool.not_eq_false]
  rw [decide_eq_true h.1, decide_eq_true h.2.1, decide_eq_true h.2.2]
theorem s169_no {a b : D} (h : ¬ Iv.Vd (iv a b)) : s169.fn [a, b, .bool true] = [.int 0, .int 0, .bool false] := by
  have e : s169.fn [a, b, .bool true] = t169.run (fnOf []) [a, b, .bool true] := rfl
  rw [e]
  unfold Iv.Vd iv at h
  simp only at h
  simp only [t169, Nat.reduceAdd, Tr.run, T.eval, T.evals, pe_ar, pe_wrap, pe_mn, pe_mx, pe_cm, pe_not, pe_beq, pe_ite, pe_len, pe_slen, pe_sat, pe_xt, pe_call, fnOf, preOf, cm_eq, cm_ne, cm_lt, cm_le, cm_gt, cm_ge, ar_add, ar_sub, ar_mul, ar_quo, ar_rem, ar_shl, ar_shr, wrap_u64, wrap_i64, wrap_u8, wrap_u16, List.getD_cons_zero, List.getD_cons_succ, List.cons_append, List.nil_append, D.toInt_int, D.toBool_bool, decide_eq_true_eq, decide_eq_false_iff_not, Bool.not_eq_true, Bool.not_eq_false]
  by_cases h1 : a.toInt ≤ b.toInt
  · by_cases h2 : -17592186044416 ≤ a.toInt
    · rw [decide_eq_true h1, decide_eq_true h2, decide_eq_false (fun h3 => h ⟨h1, h2, h3⟩)]
    · rw [decide_eq_true h1, decide_eq_false h2]
  · rw [decide_eq_false h1]
theorem s169_I {X : Iv.I} (h : Iv.Vd X) : s169.fn [.int X.lo, .int X.hi, .bool true] = [.int X.lo, .int X.hi, .bool true] := s169_yes (a := .int X.lo) (b := .int X.hi) h
theorem s169_I0 {X : Iv.I} (h : ¬ Iv.Vd X) : s169.fn [.int X.lo, .int X.hi, .bool true] = [.int 0, .int 0, .bool false] := s169_no (a := .int X.lo) (b := .int X.hi) h
theorem vd_b {X : Iv.I} (h : Iv.Vd X) : -17592186044416 ≤ X.lo ∧ X.lo ≤ 17592186044416 ∧ -17592186044416 ≤ X.hi ∧ X.hi ≤ 17592186044416 := by unfold Iv.Vd at h; omega
theorem iv_b {a b : D} (h : Iv.Vd (iv a b)) : (-17592186044416 ≤ a.toInt ∧ a.toInt ≤ 17592186044416) ∧ -17592186044416 ≤ b.toInt ∧ b.toInt ≤ 17592186044416 := by unfold Iv.Vd iv at h; simp only at h; omega
/-- The absolute value of a number. -/
theorem s175_val (a : D) (h : -9223372036854775808 < a.toInt ∧ a.toInt < 9223372036854775808) : s175.fn [a] = [.int (a.toInt.natAbs : Int)] := by
  have e : s175.fn [a] = t175.run (fnOf []) [a] := rfl
  rw [e]
  simp only [t175, Nat.reduceAdd, Tr.run, T.eval, T.evals, pe_ar, pe_wrap, pe_mn, pe_mx, pe_cm, pe_not, pe_beq, pe_ite, pe_len, pe_slen, pe_sat, pe_xt, pe_call, fnOf, preOf, cm_eq, cm_ne, cm_lt, cm_le, cm_gt, cm_ge, ar_add, ar_sub, ar_mul, ar_quo, ar_rem, ar_shl, ar_shr, wrap_u64, wrap_i64, wrap_u8, wrap_u16, List.getD_cons_zero, List.getD_cons_succ, List.cons_append, List.nil_append, D.toInt_int, D.toBool_bool, decide_eq_true_eq, decide_eq_false_iff_not, Bool.not_eq_true, Bool.not_eq_false]
  by_cases hn : a.toInt < 0
  · rw [decide_eq_true hn]
    simp only
    congr 2
    omega
  · rw [decide_eq_false hn]
    simp only
    congr 2
    omega
theorem s176_fn (a b c : D) : s176.fn [a, b, c] = [.int ((a.toInt * 18446744073709551616 + b.toInt) / c.toInt), .int ((a.toInt * 18446744073709551616 + b.toInt) % c.toInt)] := rfl
/-- A ratio, rounded down and up. -/
theorem s126_val {a b d : D} (ha : -9223372036854775808 < a.toInt ∧ a.toInt < 9223372036854775808) (hb : -9223372036854775808 < b.toInt ∧ b.toInt < 9223372036854775808) (hd : 0 < d.toInt ∧ d.toInt < 9223372036854775808) :
    s126.fn [a, b, d] = if 17592186044416 < ((a.toInt * b.toInt).natAbs : Int) / d.toInt then [.int 0, .int 0, .bool false] else [.int (Iv.fl (a.toInt * b.toInt) d.toInt), .int (Iv.ce (a.toInt * b.toInt) d.toInt), .bool true] := by
  have e : s126.fn [a, b, d] = t126.run (fnOf [s166, s175, s176]) [a, b, d] := rfl
  rw [e]
  have e1 := s166_val (.int (a.toInt.natAbs : Int)) (.int (b.toInt.natAbs : Int)) (by simp only [D.toInt_int]; omega) (by simp only [D.toInt_int]; omega) (by simp only [D.toInt_int]; omega) (by simp only [D.toInt_int]; omega)
  simp only [D.toInt_int] at e1
  have en : (a.toInt.natAbs : Int) * (b.toInt.natAbs : Int) = ((a.toInt * b.toInt).natAbs : Int) := by rw [Int.natAbs_mul, Int.natCast_mul]
  rw [en] at e1
  have wd' : d.toInt % 18446744073709551616 = d.toInt := by omega
  simp only [t126, Nat.reduceAdd, Tr.run, T.eval, T.evals, pe_ar, pe_wrap, pe_mn, pe_mx, pe_cm, pe_not, pe_beq, pe_ite, pe_len, pe_slen, pe_sat, pe_xt, pe_call, fnOf, preOf, cm_eq, cm_ne, cm_lt, cm_le, cm_gt, cm_ge, ar_add, ar_sub, ar_mul, ar_quo, ar_rem, ar_shl, ar_shr, wrap_u64, wrap_i64, wrap_u8, wrap_u16, List.getD_cons_zero, List.getD_cons_succ, List.cons_append, List.nil_append, D.toInt_int, D.toBool_bool, decide_eq_true_eq, decide_eq_false_iff_not, Bool.not_eq_true, Bool.not_eq_false, s175_val a ha, s175_val b hb, e1, s176_fn, wd']
  have hn0 : 0 ≤ ((a.toInt * b.toInt).natAbs : Int) := by omega
  have hsplit : ((a.toInt * b.toInt).natAbs : Int) / 18446744073709551616 * 18446744073709551616 + ((a.toInt * b.toInt).natAbs : Int) % 18446744073709551616 = ((a.toInt * b.toInt).natAbs : Int) := by omega
  rw [hsplit]
  -- the sign of the product
  have sgn : (a.toInt < 0 ↔ b.toInt < 0) → 0 ≤ a.toInt * b.toInt := fun h => by
    by_cases ha0 : a.toInt < 0
    · have := Int.mul_nonneg (show 0 ≤ -a.toInt by omega) (show 0 ≤ -b.toInt by have := h.1 ha0; omega)
      rwa [Int.neg_mul_neg] at this
    · exact Int.mul_nonneg (by omega) (by have := fun x => ha0 (h.2 x); omega)
  have sgn2 : ¬ (a.toInt < 0 ↔ b.toInt < 0) → a.toInt * b.toInt ≤ 0 := fun h => by
    by_cases ha0 : a.toInt < 0
    · have hb0 : 0 ≤ b.toInt := by
        rcases Int.lt_or_le b.toInt 0 with x | x
        · exact absurd ⟨fun _ => x, fun _ => ha0⟩ h
        · exact x
      have := Int.mul_nonneg (show 0 ≤ -a.toInt by omega) hb0
      rw [Int.neg_mul] at this
      omega
    · have hb0 : b.toInt < 0 := by
        rcases Int.lt_or_le b.toInt 0 with x | x
        · exact x
        · exact absurd ⟨fun y => absurd y ha0, fun y => by omega⟩ h
      have := Int.mul_nonneg (show 0 ≤ a.toInt by omega) (show 0 ≤ -b.toInt by omega)
      rw [Int.mul_neg] at this
      omega
  have beq : (decide (a.toInt < 0) == decide (b.toInt < 0)) = decide (a.toInt < 0 ↔ b.toInt < 0) := by
    by_cases x : a.toInt < 0 <;> by_cases y : b.toInt < 0 <;> simp [x, y]
  rw [beq]
  have sg1 : decide (a.toInt < 0 ↔ b.toInt < 0) = true → 0 ≤ a.toInt * b.toInt := fun h => sgn (of_decide_eq_true h)
  have sg2 : decide (a.toInt < 0 ↔ b.toInt < 0) = false → a.toInt * b.toInt ≤ 0 := fun h => sgn2 (of_decide_eq_false h)
  clear sgn sgn2 beq
  generalize hp : a.toInt * b.toInt = p at *
  generalize hs : decide (a.toInt < 0 ↔ b.toInt < 0) = s at *
  generalize d.toInt = q at *
  have hq0 : (p.natAbs : Int) / q ≤ (p.natAbs : Int) / q := Int.le_refl _
  have hdm := Int.emod_add_mul_ediv (p.natAbs : Int) q
  have hm0 := Int.emod_nonneg (p.natAbs : Int) (show q ≠ 0 by omega)
  have hm1 := Int.emod_lt_of_pos (p.natAbs : Int) hd.1
  have hd0 : 0 ≤ (p.natAbs : Int) / q := Int.ediv_nonneg hn0 (by omega)
  by_cases hbig : 17592186044416 < (p.natAbs : Int) / q
  · rw [if_pos hbig]
    by_cases hc : q ≤ (p.natAbs : Int) / 18446744073709551616
    · rw [decide_eq_true hc]
    · rw [decide_eq_false hc, decide_eq_true hbig]
  · rw [if_neg hbig]
    have hc : ¬ q ≤ (p.natAbs : Int) / 18446744073709551616 := fun hc => by
      have h1 : q * 18446744073709551616 ≤ (p.natAbs : Int) := by omega
      have h2 : 18446744073709551616 ≤ (p.natAbs : Int) / q := (Int.le_ediv_iff_mul_le hd.1).2 (by rw [Int.mul_comm]; exact h1)
      omega
    rw [decide_eq_false hc, decide_eq_false hbig]
    -- what is rounded
    have cpos : 0 ≤ p → Iv.fl p q = (p.natAbs : Int) / q ∧ Iv.ce p q = (p.natAbs : Int) / q + (if 0 < (p.natAbs : Int) % q then 1 else 0) := fun h => by
      have hpn : (p.natAbs : Int) = p := by omega
      refine ⟨by unfold Iv.fl; rw [hpn], ?_⟩
      rw [hpn] at hdm hm0 hm1 ⊢
      split
      · rename_i hr
        refine Int.le_antisymm (Iv.ce_le hd.1 ?_) ?_
        · rw [Int.add_mul, Int.mul_comm]; omega
        · have := Iv.ce_lt (n := p) hd.1
          rcases Int.lt_or_le (Iv.ce p q) (p / q + 1) with x | x
          · have h5 := Iv.le_ce (n := p) hd.1
            have h6 : Iv.ce p q * q ≤ p / q * q := Int.mul_le_mul_of_nonneg_right (by omega) (by omega)
            rw [Int.mul_comm (p / q)] at h6
            omega
          · exact x
      · rename_i hr
        have : p = p / q * q := by rw [Int.mul_comm]; omega
        have h7 := Iv.ce_mul (p / q) hd.1
        rw [← this] at h7
        rw [h7]; omega
    have cneg : p ≤ 0 → Iv.fl p q = -((p.natAbs : Int) / q + (if 0 < (p.natAbs : Int) % q then 1 else 0)) ∧ Iv.ce p q = -((p.natAbs : Int) / q) := fun h => by
      have hpn : (p.natAbs : Int) = -p := by omega
      refine ⟨?_, by unfold Iv.ce; rw [hpn]⟩
      rw [hpn] at hdm hm0 hm1 ⊢
      split
      · rename_i hr
        refine Int.le_antisymm ?_ (Iv.fl_ge hd.1 ?_)
        · rcases Int.lt_or_le (-(-p / q + 1)) (Iv.fl p q) with x | x
          · have h5 := Iv.fl_le (n := p) hd.1
            have h6 : -(-p / q) * q ≤ Iv.fl p q * q := Int.mul_le_mul_of_nonneg_right (by omega) (by omega)
            rw [Int.neg_mul, Int.mul_comm (-p / q)] at h6
            omega
          · exact x
        · rw [Int.neg_mul, Int.add_mul, Int.mul_comm]; omega
      · rename_i hr
        have : p = -(-p / q) * q := by rw [Int.neg_mul, Int.mul_comm]; omega
        have h7 := Iv.fl_mul (-(-p / q)) hd.1
        rw [← this] at h7
        rw [h7]; omega
    have w1 := wi (n := (p.natAbs : Int) / q) (by omega) (by omega)
    have w2 := wi (n := (p.natAbs : Int) / q + 1) (by omega) (by omega)
    have w3 := wi (n := 0 - ((p.natAbs : Int) / q)) (by omega) (by omega)
    have w4 := wi (n := 0 - ((p.natAbs : Int) / q + 1)) (by omega) (by omega)
    simp only [w1, w2, w3, w4]
    cases s with
    | true =>
      obtain ⟨c1, c2⟩ := cpos (sg1 rfl)
      rw [c1, c2]
      by_cases hr : 0 < (p.natAbs : Int) % q
      · simp only [hr, decide_true, if_true]
      · simp only [hr, decide_false, if_false, Int.add_zero]
    | false =>
      obtain ⟨c1, c2⟩ := cneg (sg2 rfl)
      rw [c1, c2]
      by_cases hr : 0 < (p.natAbs : Int) % q
      · simp only [hr, decide_true, if_true, Int.zero_sub]
      · simp only [hr, decide_false, if_false, Int.add_zero, Int.zero_sub]

/-- The interval at places i, i + 1. -/
def iat (ds : List D) (i : Nat) : Iv.I := ⟨(ds.getD i default).toInt, (ds.getD (i + 1) default).toInt⟩
def enc (X : Iv.I) : List D := [.int X.lo, .int X.hi]
def okI (X : Iv.I) : List D := if Iv.Vd X then enc X ++ [.bool true] else [.int 0, .int 0, .bool false]
theorem okI_yes {X : Iv.I} (h : Iv.Vd X) : okI X = [.int X.lo, .int X.hi, .bool true] := by unfold okI; rw [if_pos h]; rfl
theorem okI_no {X : Iv.I} (h : ¬ Iv.Vd X) : okI X = [.int 0, .int 0, .bool false] := by unfold okI; rw [if_neg h]
theorem s169_ok2 (X : Iv.I) : s169.fn [.int X.lo, .int X.hi, .bool true] = okI X := by
  by_cases h : Iv.Vd X
  · rw [s169_I h, okI_yes h]
  · rw [s169_I0 h, okI_no h]
def c3f (l : List D) : List D := [l.getD 0 default, l.getD 1 default, l.getD 2 default]
theorem okI_3 (X : Iv.I) : [(okI X).getD 0 default, (okI X).getD 1 default, (okI X).getD 2 default] = okI X := by
  by_cases h : Iv.Vd X
  · rw [okI_yes h]; rfl
  · rw [okI_no h]; rfl
theorem p24 (l : List D) : s24.pre l = True := rfl
theorem p169 (l : List D) : s169.pre l = True := rfl
theorem p27 (l : List D) : s27.pre l = True := rfl
theorem p71 (l : List D) : s71.pre l = True := rfl
theorem pre126 (a b d : D) : s126.pre [a, b, d] = (0 < d.toInt ∧ d.toInt < 9223372036854775808) := rfl
/-- compositor/interval.Add -/
def c113 : Con := { f := 113, ps := [.agg [.int .i64, .int .i64], .agg [.int .i64, .int .i64]], rs := [.agg [.int .i64, .int .i64], .at (.bool)] }
def t113 : Lt :=
 (.call 0 [.v 0, .v 1] 1
 (.ask (.v 4)
  (.call 0 [.v 2, .v 3] 1
  (.call 1 [.app (.ar .add .i64) [.v 0, .v 2], .app (.ar .add .i64) [.v 1, .v 3], .v 5] 3
  (.ret (.done [.v 6, .v 7, .v 8]))))
  (.call 1 [.app (.ar .add .i64) [.v 0, .v 2], .app (.ar .add .i64) [.v 1, .v 3], .lit (.bool false)] 3
  (.ret (.done [.v 5, .v 6, .v 7])))))
theorem t113_eq : ((fnC (PV.fast Tryz.prog) G (([s24, s169] : List Sx.Spec).map (·.con)) [] 300 c113 20).prune []).toTr = t113.expand (vars 4) := by kernel_rfl

def f113 (ds : List D) : List D := okI (Iv.add (iat ds 0) (iat ds 2))
def s113 : Sx.Spec := { con := { c113 with fold := some f113 }, pre := fun ds => Iv.Vd (iat ds 0) ∧ Iv.Vd (iat ds 2), fn := f113 }
theorem s113_ok : s113.Ok Tryz.prog G := lspec_ok [s24, s169] (by simp only [List.mem_cons, List.not_mem_nil, or_false, forall_eq_or_imp, forall_eq]; exact ⟨s24_ok, s169_ok⟩) s113 300 20 (fun g hg ds _ => by simp only [s113, Option.some.injEq] at hg ⊢; rw [hg]) t113 4 t113_eq (by
  intro ds h
  obtain ⟨h1, h2⟩ := h
  have b1 : _ ∧ _ := iv_b (a := ds.getD 0 default) (b := ds.getD 1 default) h1
  have b2 : _ ∧ _ := iv_b (a := ds.getD 2 default) (b := ds.getD 3 default) h2
  have e1 : s24.fn [ds.getD 0 default, ds.getD 1 default] = [.bool true] := s24_iv h1
  have e2 : s24.fn [ds.getD 2 default, ds.getD 3 default] = [.bool true] := s24_iv h2
  have e3 : s169.fn [.int ((ds.getD 0 default).toInt + (ds.getD 2 default).toInt), .int ((ds.getD 1 default).toInt + (ds.getD 3 default).toInt), .bool true] = okI (Iv.add (iat ds 0) (iat ds 2)) := s169_ok2 (Iv.add (iat ds 0) (iat ds 2))
  simp only [t113, Nat.reduceAdd, Lt.holds, Lt.safe, Lt.run, Leaf.at, LeafV.Ok, envOf, resD, T.eval, T.evals, pe_ar, pe_wrap, pe_mn, pe_mx, pe_cm, pe_not, pe_beq, pe_ite, pe_len, pe_slen, pe_sat, pe_xt, pe_call, fnOf, preOf, cm_eq, cm_ne, cm_lt, cm_le, cm_gt, cm_ge, ar_add, ar_sub, ar_mul, ar_quo, ar_rem, ar_shl, ar_shr, wrap_u64, wrap_i64, wrap_u8, wrap_u16, List.getD_cons_zero, List.getD_cons_succ, List.cons_append, List.nil_append, D.toInt_int, D.toBool_bool, decide_eq_true_eq, decide_eq_false_iff_not, Bool.not_eq_true, Bool.not_eq_false, p24, p169, e1, e2, true_and, true_implies, Bool.true_eq_false, false_implies, and_true]
  rw [wi (by omega) (by omega), wi (by omega) (by omega)]
  rw [e3, okI_3]
  exact AgreeS.refl _ _)
theorem s113_fn (a b c d : D) : s113.fn [a, b, c, d] = okI (Iv.add (iv a b) (iv c d)) := rfl
theorem s113_pre (a b c d : D) : s113.pre [a, b, c, d] = (Iv.Vd (iv a b) ∧ Iv.Vd (iv c d)) := rfl
/-- compositor/interval.Sub -/
def c114 : Con := { f := 114, ps := [.agg [.int .i64, .int .i64], .agg [.int .i64, .int .i64]], rs := [.agg [.int .i64, .int .i64], .at (.bool)] }
def t114 : Lt :=
 (.call 0 [.v 0, .v 1] 1
 (.ask (.v 4)
  (.call 0 [.v 2, .v 3] 1
  (.call 1 [.app (.ar .sub .i64) [.v 0, .v 3], .app (.ar .sub .i64) [.v 1, .v 2], .v 5] 3
  (.ret (.done [.v 6, .v 7, .v 8]))))
  (.call 1 [.app (.ar .sub .i64) [.v 0, .v 3], .app (.ar .sub .i64) [.v 1, .v 2], .lit (.bool false)] 3
  (.ret (.done [.v 5, .v 6, .v 7])))))
theorem t114_eq : ((fnC (PV.fast Tryz.prog) G (([s24, s169] : List Sx.Spec).map (·.con)) [] 300 c114 20).prune []).toTr = t114.expand (vars 4) := by kernel_rfl

def f114 (ds : List D) : List D := okI (Iv.sub (iat ds 0) (iat ds 2))
def s114 : Sx.Spec := { con := { c114 with fold := some f114 }, pre := fun ds => Iv.Vd (iat ds 0) ∧ Iv.Vd (iat ds 2), fn := f114 }
theorem s114_ok : s114.Ok Tryz.prog G := lspec_ok [s24, s169] (by simp only [List.mem_cons, List.not_mem_nil, or_false, forall_eq_or_imp, forall_eq]; exact ⟨s24_ok, s169_ok⟩) s114 300 20 (fun g hg ds _ => by simp only [s114, Option.some.injEq] at hg ⊢; rw [hg]) t114 4 t114_eq (by
  intro ds h
  obtain ⟨h1, h2⟩ := h
  have b1 : _ ∧ _ := iv_b (a := ds.getD 0 default) (b := ds.getD 1 default) h1
  have b2 : _ ∧ _ := iv_b (a := ds.getD 2 default) (b := ds.getD 3 default) h2
  have e1 : s24.fn [ds.getD 0 default, ds.getD 1 default] = [.bool true] := s24_iv h1
  have e2 : s24.fn [ds.getD 2 default, ds.getD 3 default] = [.bool true] := s24_iv h2
  have e3 : s169.fn [.int ((ds.getD 0 default).toInt - (ds.getD 3 default).toInt), .int ((ds.getD 1 default).toInt - (ds.getD 2 default).toInt), .bool true] = okI (Iv.sub (iat ds 0) (iat ds 2)) := s169_ok2 (Iv.sub (iat ds 0) (iat ds 2))
  simp only [t114, Nat.reduceAdd, Lt.holds, Lt.safe, Lt.run, Leaf.at, LeafV.Ok, envOf, resD, T.eval, T.evals, pe_ar, pe_wrap, pe_mn, pe_mx, pe_cm, pe_not, pe_beq, pe_ite, pe_len, pe_slen, pe_sat, pe_xt, pe_call, fnOf, preOf, cm_eq, cm_ne, cm_lt, cm_le, cm_gt, cm_ge, ar_add, ar_sub, ar_mul, ar_quo, ar_rem, ar_shl, ar_shr, wrap_u64, wrap_i64, wrap_u8, wrap_u16, List.getD_cons_zero, List.getD_cons_succ, List.cons_append, List.nil_append, D.toInt_int, D.toBool_bool, decide_eq_true_eq, decide_eq_false_iff_not, Bool.not_eq_true, Bool.not_eq_false, p24, p169, e1, e2, true_and, true_implies, Bool.true_eq_false, false_implies, and_true]
  rw [wi (by omega) (by omega), wi (by omega) (by omega)]
  rw [e3, okI_3]
  exact AgreeS.refl _ _)
theorem s114_fn (a b c d : D) : s114.fn [a, b, c, d] = okI (Iv.sub (iv a b) (iv c d)) := rfl
theorem s114_pre (a b c d : D) : s114.pre [a, b, c, d] = (Iv.Vd (iv a b) ∧ Iv.Vd (iv c d)) := rfl
/-- compositor/interval.Min -/
def c117 : Con := { f := 117, ps := [.agg [.int .i64, .int .i64], .agg [.int .i64, .int .i64]], rs := [.agg [.int .i64, .int .i64], .at (.bool)] }
def t117 : Lt :=
 (.call 0 [.v 0, .v 1] 1
 (.ask (.v 4)
  (.call 0 [.v 2, .v 3] 1
  (.call 1 [.app .mn [.v 0, .v 2], .app .mn [.v 1, .v 3], .v 5] 3
  (.ret (.done [.v 6, .v 7, .v 8]))))
  (.call 1 [.app .mn [.v 0, .v 2], .app .mn [.v 1, .v 3], .lit (.bool false)] 3
  (.ret (.done [.v 5, .v 6, .v 7])))))
theorem t117_eq : ((fnC (PV.fast Tryz.prog) G (([s24, s169] : List Sx.Spec).map (·.con)) [] 300 c117 20).prune []).toTr = t117.expand (vars 4) := by kernel_rfl

def f117 (ds : List D) : List D := okI (Iv.least (iat ds 0) (iat ds 2))
def s117 : Sx.Spec := { con := { c117 with fold := some f117 }, pre := fun ds => Iv.Vd (iat ds 0) ∧ Iv.Vd (iat ds 2), fn := f117 }
theorem s117_ok : s117.Ok Tryz.prog G := lspec_ok [s24, s169] (by simp only [List.mem_cons, List.not_mem_nil, or_false, forall_eq_or_imp, forall_eq]; exact ⟨s24_ok, s169_ok⟩) s117 300 20 (fun g hg ds _ => by simp only [s117, Option.some.injEq] at hg ⊢; rw [hg]) t117 4 t117_eq (by
  intro ds h
  obtain ⟨h1, h2⟩ := h
  have b1 : _ ∧ _ := iv_b (a := ds.getD 0 default) (b := ds.getD 1 default) h1
  have b2 : _ ∧ _ := iv_b (a := ds.getD 2 default) (b := ds.getD 3 default) h2
  have e1 : s24.fn [ds.getD 0 default, ds.getD 1 default] = [.bool true] := s24_iv h1
  have e2 : s24.fn [ds.getD 2 default, ds.getD 3 default] = [.bool true] := s24_iv h2
  have e3 : s169.fn [.int (min (ds.getD 0 default).toInt (ds.getD 2 default).toInt), .int (min (ds.getD 1 default).toInt (ds.getD 3 default).toInt), .bool true] = okI (Iv.least (iat ds 0) (iat ds 2)) := s169_ok2 (Iv.least (iat ds 0) (iat ds 2))
  simp only [t117, Nat.reduceAdd, Lt.holds, Lt.safe, Lt.run, Leaf.at, LeafV.Ok, envOf, resD, T.eval, T.evals, pe_ar, pe_wrap, pe_mn, pe_mx, pe_cm, pe_not, pe_beq, pe_ite, pe_len, pe_slen, pe_sat, pe_xt, pe_call, fnOf, preOf, cm_eq, cm_ne, cm_lt, cm_le, cm_gt, cm_ge, ar_add, ar_sub, ar_mul, ar_quo, ar_rem, ar_shl, ar_shr, wrap_u64, wrap_i64, wrap_u8, wrap_u16, List.getD_cons_zero, List.getD_cons_succ, List.cons_append, List.nil_append, D.toInt_int, D.toBool_bool, decide_eq_true_eq, decide_eq_false_iff_not, Bool.not_eq_true, Bool.not_eq_false, p24, p169, e1, e2, true_and, true_implies, Bool.true_eq_false, false_implies, and_true]
  rw [e3, okI_3]
  exact AgreeS.refl _ _)
theorem s117_fn (a b c d : D) : s117.fn [a, b, c, d] = okI (Iv.least (iv a b) (iv c d)) := rfl
theorem s117_pre (a b c d : D) : s117.pre [a, b, c, d] = (Iv.Vd (iv a b) ∧ Iv.Vd (iv c d)) := rfl
/-- compositor/interval.Max -/
def c118 : Con := { f := 118, ps := [.agg [.int .i64, .int .i64], .agg [.int .i64, .int .i64]], rs := [.agg [.int .i64, .int .i64], .at (.bool)] }
def t118 : Lt :=
 (.call 0 [.v 0, .v 1] 1
 (.ask (.v 4)
  (.call 0 [.v 2, .v 3] 1
  (.call 1 [.app .mx [.v 0, .v 2], .app .mx [.v 1, .v 3], .v 5] 3
  (.ret (.done [.v 6, .v 7, .v 8]))))
  (.call 1 [.app .mx [.v 0, .v 2], .app .mx [.v 1, .v 3], .lit (.bool false)] 3
  (.ret (.done [.v 5, .v 6, .v 7])))))
theorem t118_eq : ((fnC (PV.fast Tryz.prog) G (([s24, s169] : List Sx.Spec).map (·.con)) [] 300 c118 20).prune []).toTr = t118.expand (vars 4) := by kernel_rfl

def f118 (ds : List D) : List D := okI (Iv.most (iat ds 0) (iat ds 2))
def s118 : Sx.Spec := { con := { c118 with fold := some f118 }, pre := fun ds => Iv.Vd (iat ds 0) ∧ Iv.Vd (iat ds 2), fn := f118 }
theorem s118_ok : s118.Ok Tryz.prog G := lspec_ok [s24, s169] (by simp only [List.mem_cons, List.not_mem_nil, or_false, forall_eq_or_imp, forall_eq]; exact ⟨s24_ok, s169_ok⟩) s118 300 20 (fun g hg ds _ => by simp only [s118, Option.some.injEq] at hg ⊢; rw [hg]) t118 4 t118_eq (by
  intro ds h
  obtain ⟨h1, h2⟩ := h
  have b1 : _ ∧ _ := iv_b (a := ds.getD 0 default) (b := ds.getD 1 default) h1
  have b2 : _ ∧ _ := iv_b (a := ds.getD 2 default) (b := ds.getD 3 default) h2
  have e1 : s24.fn [ds.getD 0 default, ds.getD 1 default] = [.bool true] := s24_iv h1
  have e2 : s24.fn [ds.getD 2 default, ds.getD 3 default] = [.bool true] := s24_iv h2
  have e3 : s169.fn [.int (max (ds.getD 0 default).toInt (ds.getD 2 default).toInt), .int (max (ds.getD 1 default).toInt (ds.getD 3 default).toInt), .bool true] = okI (Iv.most (iat ds 0) (iat ds 2)) := s169_ok2 (Iv.most (iat ds 0) (iat ds 2))
  simp only [t118, Nat.reduceAdd, Lt.holds, Lt.safe, Lt.run, Leaf.at, LeafV.Ok, envOf, resD, T.eval, T.evals, pe_ar, pe_wrap, pe_mn, pe_mx, pe_cm, pe_not, pe_beq, pe_ite, pe_len, pe_slen, pe_sat, pe_xt, pe_call, fnOf, preOf, cm_eq, cm_ne, cm_lt, cm_le, cm_gt, cm_ge, ar_add, ar_sub, ar_mul, ar_quo, ar_rem, ar_shl, ar_shr, wrap_u64, wrap_i64, wrap_u8, wrap_u16, List.getD_cons_zero, List.getD_cons_succ, List.cons_append, List.nil_append, D.toInt_int, D.toBool_bool, decide_eq_true_eq, decide_eq_false_iff_not, Bool.not_eq_true, Bool.not_eq_false, p24, p169, e1, e2, true_and, true_implies, Bool.true_eq_false, false_implies, and_true]
  rw [e3, okI_3]
  exact AgreeS.refl _ _)
theorem s118_fn (a b c d : D) : s118.fn [a, b, c, d] = okI (Iv.most (iv a b) (iv c d)) := rfl
theorem s118_pre (a b c d : D) : s118.pre [a, b, c, d] = (Iv.Vd (iv a b) ∧ Iv.Vd (iv c d)) := rfl
/-- compositor/interval.Hull -/
def c170 : Con := { f := 170, ps := [.agg [.int .i64, .int .i64], .agg [.int .i64, .int .i64]], rs := [.agg [.int .i64, .int .i64], .at (.bool)] }
def t170 : Lt :=
 (.call 0 [.v 0, .v 1] 1
 (.ask (.v 4)
  (.call 0 [.v 2, .v 3] 1
  (.call 1 [.app .mn [.v 0, .v 2], .app .mx [.v 1, .v 3], .v 5] 3
  (.ret (.done [.v 6, .v 7, .v 8]))))
  (.call 1 [.app .mn [.v 0, .v 2], .app .mx [.v 1, .v 3], .lit (.bool false)] 3
  (.ret (.done [.v 5, .v 6, .v 7])))))
theorem t170_eq : ((fnC (PV.fast Tryz.prog) G (([s24, s169] : List Sx.Spec).map (·.con)) [] 300 c170 20).prune []).toTr = t170.expand (vars 4) := by kernel_rfl

def f170 (ds : List D) : List D := okI (Iv.hull (iat ds 0) (iat ds 2))
def s170 : Sx.Spec := { con := { c170 with fold := some f170 }, pre := fun ds => Iv.Vd (iat ds 0) ∧ Iv.Vd (iat ds 2), fn := f170 }
theorem s170_ok : s170.Ok Tryz.prog G := lspec_ok [s24, s169] (by simp only [List.mem_cons, List.not_mem_nil, or_false, forall_eq_or_imp, forall_eq]; exact ⟨s24_ok, s169_ok⟩) s170 300 20 (fun g hg ds _ => by simp only [s170, Option.some.injEq] at hg ⊢; rw [hg]) t170 4 t170_eq (by
  intro ds h
  obtain ⟨h1, h2⟩ := h
  have b1 : _ ∧ _ := iv_b (a := ds.getD 0 default) (b := ds.getD 1 default) h1
  have b2 : _ ∧ _ := iv_b (a := ds.getD 2 default) (b := ds.getD 3 default) h2
  have e1 : s24.fn [ds.getD 0 default, ds.getD 1 default] = [.bool true] := s24_iv h1
  have e2 : s24.fn [ds.getD 2 default, ds.getD 3 default] = [.bool true] := s24_iv h2
  have e3 : s169.fn [.int (min (ds.getD 0 default).toInt (ds.getD 2 default).toInt), .int (max (ds.getD 1 default).toInt (ds.getD 3 default).toInt), .bool true] = okI (Iv.hull (iat ds 0) (iat ds 2)) := s169_ok2 (Iv.hull (iat ds 0) (iat ds 2))
  simp only [t170, Nat.reduceAdd, Lt.holds, Lt.safe, Lt.run, Leaf.at, LeafV.Ok, envOf, resD, T.eval, T.evals, pe_ar, pe_wrap, pe_mn, pe_mx, pe_cm, pe_not, pe_beq, pe_ite, pe_len, pe_slen, pe_sat, pe_xt, pe_call, fnOf, preOf, cm_eq, cm_ne, cm_lt, cm_le, cm_gt, cm_ge, ar_add, ar_sub, ar_mul, ar_quo, ar_rem, ar_shl, ar_shr, wrap_u64, wrap_i64, wrap_u8, wrap_u16, List.getD_cons_zero, List.getD_cons_succ, List.cons_append, List.nil_append, D.toInt_int, D.toBool_bool, decide_eq_true_eq, decide_eq_false_iff_not, Bool.not_eq_true, Bool.not_eq_false, p24, p169, e1, e2, true_and, true_implies, Bool.true_eq_false, false_implies, and_true]
  rw [e3, okI_3]
  exact AgreeS.refl _ _)
theorem s170_fn (a b c d : D) : s170.fn [a, b, c, d] = okI (Iv.hull (iv a b) (iv c d)) := rfl
theorem s170_pre (a b c d : D) : s170.pre [a, b, c, d] = (Iv.Vd (iv a b) ∧ Iv.Vd (iv c d)) := rfl
/-- compositor/real.add -/
def c61 : Con := { f := 61, ps := [.agg [.int .i64, .int .i64], .agg [.int .i64, .int .i64]], rs := [.agg [.int .i64, .int .i64]] }
def t61 : Lt :=
 (.call 0 [.v 0, .v 1, .v 2, .v 3] 3
 (.ret (.done [.v 4, .v 5])))
theorem t61_eq : ((fnC (PV.fast Tryz.prog) G (([s113] : List Sx.Spec).map (·.con)) [] 300 c61 20).prune []).toTr = t61.expand (vars 4) := by kernel_rfl

def f61 (ds : List D) : List D := enc (Iv.add (iat ds 0) (iat ds 2))
def s61 : Sx.Spec := { con := { c61 with fold := some f61 }, pre := fun ds => (Iv.Vd (iat ds 0) ∧ Iv.Vd (iat ds 2)) ∧ Iv.Vd (Iv.add (iat ds 0) (iat ds 2)), fn := f61 }
theorem s61_ok : s61.Ok Tryz.prog G := lspec_ok [s113] (by simp only [List.mem_cons, List.not_mem_nil, or_false, forall_eq_or_imp, forall_eq]; exact s113_ok) s61 300 20 (fun g hg ds _ => by simp only [s61, Option.some.injEq] at hg ⊢; rw [hg]) t61 4 t61_eq (by
  intro ds h
  obtain ⟨⟨h1, h2⟩, h3⟩ := h
  have e1 : s113.fn [ds.getD 0 default, ds.getD 1 default, ds.getD 2 default, ds.getD 3 default] = [.int (Iv.add (iat ds 0) (iat ds 2)).lo, .int (Iv.add (iat ds 0) (iat ds 2)).hi, .bool true] := (s113_fn _ _ _ _).trans (okI_yes h3)
  simp only [t61, Nat.reduceAdd, Lt.holds, Lt.safe, Lt.run, Leaf.at, LeafV.Ok, envOf, resD, T.eval, T.evals, pe_ar, pe_wrap, pe_mn, pe_mx, pe_cm, pe_not, pe_beq, pe_ite, pe_len, pe_slen, pe_sat, pe_xt, pe_call, fnOf, preOf, cm_eq, cm_ne, cm_lt, cm_le, cm_gt, cm_ge, ar_add, ar_sub, ar_mul, ar_quo, ar_rem, ar_shl, ar_shr, wrap_u64, wrap_i64, wrap_u8, wrap_u16, List.getD_cons_zero, List.getD_cons_succ, List.cons_append, List.nil_append, D.toInt_int, D.toBool_bool, decide_eq_true_eq, decide_eq_false_iff_not, Bool.not_eq_true, Bool.not_eq_false, s113_pre, e1]
  exact ⟨⟨h1, h2⟩, AgreeS.refl _ _⟩)
theorem s61_fn (a b c d : D) : s61.fn [a, b, c, d] = [.int (Iv.add (iv a b) (iv c d)).lo, .int (Iv.add (iv a b) (iv c d)).hi] := rfl
theorem s61_pre (a b c d : D) : s61.pre [a, b, c, d] = ((Iv.Vd (iv a b) ∧ Iv.Vd (iv c d)) ∧ Iv.Vd (Iv.add (iv a b) (iv c d))) := rfl
/-- compositor/real.sub -/
def c62 : Con := { f := 62, ps := [.agg [.int .i64, .int .i64], .agg [.int .i64, .int .i64]], rs := [.agg [.int .i64, .int .i64]] }
def t62 : Lt :=
 (.call 0 [.v 0, .v 1, .v 2, .v 3] 3
 (.ret (.done [.v 4, .v 5])))
theorem t62_eq : ((fnC (PV.fast Tryz.prog) G (([s114] : List Sx.Spec).map (·.con)) [] 300 c62 20).prune []).toTr = t62.expand (vars 4) := by kernel_rfl

def f62 (ds : List D) : List D := enc (Iv.sub (iat ds 0) (iat ds 2))
def s62 : Sx.Spec := { con := { c62 with fold := some f62 }, pre := fun ds => (Iv.Vd (iat ds 0) ∧ Iv.Vd (iat ds 2)) ∧ Iv.Vd (Iv.sub (iat ds 0) (iat ds 2)), fn := f62 }
theorem s62_ok : s62.Ok Tryz.prog G := lspec_ok [s114] (by simp only [List.mem_cons, List.not_mem_nil, or_false, forall_eq_or_imp, forall_eq]; exact s114_ok) s62 300 20 (fun g hg ds _ => by simp only [s62, Option.some.injEq] at hg ⊢; rw [hg]) t62 4 t62_eq (by
  intro ds h
  obtain ⟨⟨h1, h2⟩, h3⟩ := h
  have e1 : s114.fn [ds.getD 0 default, ds.getD 1 default, ds.getD 2 default, ds.getD 3 default] = [.int (Iv.sub (iat ds 0) (iat ds 2)).lo, .int (Iv.sub (iat ds 0) (iat ds 2)).hi, .bool true] := (s114_fn _ _ _ _).trans (okI_yes h3)
  simp only [t62, Nat.reduceAdd, Lt.holds, Lt.safe, Lt.run, Leaf.at, LeafV.Ok, envOf, resD, T.eval, T.evals, pe_ar, pe_wrap, pe_mn, pe_mx, pe_cm, pe_not, pe_beq, pe_ite, pe_len, pe_slen, pe_sat, pe_xt, pe_call, fnOf, preOf, cm_eq, cm_ne, cm_lt, cm_le, cm_gt, cm_ge, ar_add, ar_sub, ar_mul, ar_quo, ar_rem, ar_shl, ar_shr, wrap_u64, wrap_i64, wrap_u8, wrap_u16, List.getD_cons_zero, List.getD_cons_succ, List.cons_append, List.nil_append, D.toInt_int, D.toBool_bool, decide_eq_true_eq, decide_eq_false_iff_not, Bool.not_eq_true, Bool.not_eq_false, s114_pre, e1]
  exact ⟨⟨h1, h2⟩, AgreeS.refl _ _⟩)
theorem s62_fn (a b c d : D) : s62.fn [a, b, c, d] = [.int (Iv.sub (iv a b) (iv c d)).lo, .int (Iv.sub (iv a b) (iv c d)).hi] := rfl
theorem s62_pre (a b c d : D) : s62.pre [a, b, c, d] = ((Iv.Vd (iv a b) ∧ Iv.Vd (iv c d)) ∧ Iv.Vd (Iv.sub (iv a b) (iv c d))) := rfl
/-- compositor/real.least -/
def c64 : Con := { f := 64, ps := [.agg [.int .i64, .int .i64], .agg [.int .i64, .int .i64]], rs := [.agg [.int .i64, .int .i64]] }
def t64 : Lt :=
 (.call 0 [.v 0, .v 1, .v 2, .v 3] 3
 (.ret (.done [.v 4, .v 5])))
theorem t64_eq : ((fnC (PV.fast Tryz.prog) G (([s117] : List Sx.Spec).map (·.con)) [] 300 c64 20).prune []).toTr = t64.expand (vars 4) := by kernel_rfl

def f64 (ds : List D) : List D := enc (Iv.least (iat ds 0) (iat ds 2))
def s64 : Sx.Spec := { con := { c64 with fold := some f64 }, pre := fun ds => (Iv.Vd (iat ds 0) ∧ Iv.Vd (iat ds 2)) ∧ Iv.Vd (Iv.least (iat ds 0) (iat ds 2)), fn := f64 }
theorem s64_ok : s64.Ok Tryz.prog G := lspec_ok [s117] (by simp only [List.mem_cons, List.not_mem_nil, or_false, forall_eq_or_imp, forall_eq]; exact s117_ok) s64 300 20 (fun g hg ds _ => by simp only [s64, Option.some.injEq] at hg ⊢; rw [hg]) t64 4 t64_eq (by
  intro ds h
  obtain ⟨⟨h1, h2⟩, h3⟩ := h
  have e1 : s117.fn [ds.getD 0 default, ds.getD 1 default, ds.getD 2 default, ds.getD 3 default] = [.int (Iv.least (iat ds 0) (iat ds 2)).lo, .int (Iv.least (iat ds 0) (iat ds 2)).hi, .bool true] := (s117_fn _ _ _ _).trans (okI_yes h3)
  simp only [t64, Nat.reduceAdd, Lt.holds, Lt.safe, Lt.run, Leaf.at, LeafV.Ok, envOf, resD, T.eval, T.evals, pe_ar, pe_wrap, pe_mn, pe_mx, pe_cm, pe_not, pe_beq, pe_ite, pe_len, pe_slen, pe_sat, pe_xt, pe_call, fnOf, preOf, cm_eq, cm_ne, cm_lt, cm_le, cm_gt, cm_ge, ar_add, ar_sub, ar_mul, ar_quo, ar_rem, ar_shl, ar_shr, wrap_u64, wrap_i64, wrap_u8, wrap_u16, List.getD_cons_zero, List.getD_cons_succ, List.cons_append, List.nil_append, D.toInt_int, D.toBool_bool, decide_eq_true_eq, decide_eq_false_iff_not, Bool.not_eq_true, Bool.not_eq_false, s117_pre, e1]
  exact ⟨⟨h1, h2⟩, AgreeS.refl _ _⟩)
theorem s64_fn (a b c d : D) : s64.fn [a, b, c, d] = [.int (Iv.least (iv a b) (iv c d)).lo, .int (Iv.least (iv a b) (iv c d)).hi] := rfl
theorem s64_pre (a b c d : D) : s64.pre [a, b, c, d] = ((Iv.Vd (iv a b) ∧ Iv.Vd (iv c d)) ∧ Iv.Vd (Iv.least (iv a b) (iv c d))) := rfl
/-- compositor/real.most -/
def c65 : Con := { f := 65, ps := [.agg [.int .i64, .int .i64], .agg [.int .i64, .int .i64]], rs := [.agg [.int .i64, .int .i64]] }
def t65 : Lt :=
 (.call 0 [.v 0, .v 1, .v 2, .v 3] 3
 (.ret (.done [.v 4, .v 5])))
theorem t65_eq : ((fnC (PV.fast Tryz.prog) G (([s118] : List Sx.Spec).map (·.con)) [] 300 c65 20).prune []).toTr = t65.expand (vars 4) := by kernel_rfl

def f65 (ds : List D) : List D := enc (Iv.most (iat ds 0) (iat ds 2))
def s65 : Sx.Spec := { con := { c65 with fold := some f65 }, pre := fun ds => (Iv.Vd (iat ds 0) ∧ Iv.Vd (iat ds 2)) ∧ Iv.Vd (Iv.most (iat ds 0) (iat ds 2)), fn := f65 }
theorem s65_ok : s65.Ok Tryz.prog G := lspec_ok [s118] (by simp only [List.mem_cons, List.not_mem_nil, or_false, forall_eq_or_imp, forall_eq]; exact s118_ok) s65 300 20 (fun g hg ds _ => by simp only [s65, Option.some.injEq] at hg ⊢; rw [hg]) t65 4 t65_eq (by
  intro ds h
  obtain ⟨⟨h1, h2⟩, h3⟩ := h
  have e1 : s118.fn [ds.getD 0 default, ds.getD 1 default, ds.getD 2 default, ds.getD 3 default] = [.int (Iv.most (iat ds 0) (iat ds 2)).lo, .int (Iv.most (iat ds 0) (iat ds 2)).hi, .bool true] := (s118_fn _ _ _ _).trans (okI_yes h3)
  simp only [t65, Nat.reduceAdd, Lt.holds, Lt.safe, Lt.run, Leaf.at, LeafV.Ok, envOf, resD, T.eval, T.evals, pe_ar, pe_wrap, pe_mn, pe_mx, pe_cm, pe_not, pe_beq, pe_ite, pe_len, pe_slen, pe_sat, pe_xt, pe_call, fnOf, preOf, cm_eq, cm_ne, cm_lt, cm_le, cm_gt, cm_ge, ar_add, ar_sub, ar_mul, ar_quo, ar_rem, ar_shl, ar_shr, wrap_u64, wrap_i64, wrap_u8, wrap_u16, List.getD_cons_zero, List.getD_cons_succ, List.cons_append, List.nil_append, D.toInt_int, D.toBool_bool, decide_eq_true_eq, decide_eq_false_iff_not, Bool.not_eq_true, Bool.not_eq_false, s118_pre, e1]
  exact ⟨⟨h1, h2⟩, AgreeS.refl _ _⟩)
theorem s65_fn (a b c d : D) : s65.fn [a, b, c, d] = [.int (Iv.most (iv a b) (iv c d)).lo, .int (Iv.most (iv a b) (iv c d)).hi] := rfl
theorem s65_pre (a b c d : D) : s65.pre [a, b, c, d] = ((Iv.Vd (iv a b) ∧ Iv.Vd (iv c d)) ∧ Iv.Vd (Iv.most (iv a b) (iv c d))) := rfl
/-- compositor/real.hull -/
def c119 : Con := { f := 119, ps := [.agg [.int .i64, .int .i64], .agg [.int .i64, .int .i64]], rs := [.agg [.int .i64, .int .i64]] }
def t119 : Lt :=
 (.call 0 [.v 0, .v 1, .v 2, .v 3] 3
 (.ret (.done [.v 4, .v 5])))
theorem t119_eq : ((fnC (PV.fast Tryz.prog) G (([s170] : List Sx.Spec).map (·.con)) [] 300 c119 20).prune []).toTr = t119.expand (vars 4) := by kernel_rfl

def f119 (ds : List D) : List D := enc (Iv.hull (iat ds 0) (iat ds 2))
def s119 : Sx.Spec := { con := { c119 with fold := some f119 }, pre := fun ds => (Iv.Vd (iat ds 0) ∧ Iv.Vd (iat ds 2)) ∧ Iv.Vd (Iv.hull (iat ds 0) (iat ds 2)), fn := f119 }
theorem s119_ok : s119.Ok Tryz.prog G := lspec_ok [s170] (by simp only [List.mem_cons, List.not_mem_nil, or_false, forall_eq_or_imp, forall_eq]; exact s170_ok) s119 300 20 (fun g hg ds _ => by simp only [s119, Option.some.injEq] at hg ⊢; rw [hg]) t119 4 t119_eq (by
  intro ds h
  obtain ⟨⟨h1, h2⟩, h3⟩ := h
  have e1 : s170.fn [ds.getD 0 default, ds.getD 1 default, ds.getD 2 default, ds.getD 3 default] = [.int (Iv.hull (iat ds 0) (iat ds 2)).lo, .int (Iv.hull (iat ds 0) (iat ds 2)).hi, .bool true] := (s170_fn _ _ _ _).trans (okI_yes h3)
  simp only [t119, Nat.reduceAdd, Lt.holds, Lt.safe, Lt.run, Leaf.at, LeafV.Ok, envOf, resD, T.eval, T.evals, pe_ar, pe_wrap, pe_mn, pe_mx, pe_cm, pe_not, pe_beq, pe_ite, pe_len, pe_slen, pe_sat, pe_xt, pe_call, fnOf, preOf, cm_eq, cm_ne, cm_lt, cm_le, cm_gt, cm_ge, ar_add, ar_sub, ar_mul, ar_quo, ar_rem, ar_shl, ar_shr, wrap_u64, wrap_i64, wrap_u8, wrap_u16, List.getD_cons_zero, List.getD_cons_succ, List.cons_append, List.nil_append, D.toInt_int, D.toBool_bool, decide_eq_true_eq, decide_eq_false_iff_not, Bool.not_eq_true, Bool.not_eq_false, s170_pre, e1]
  exact ⟨⟨h1, h2⟩, AgreeS.refl _ _⟩)
theorem s119_fn (a b c d : D) : s119.fn [a, b, c, d] = [.int (Iv.hull (iv a b) (iv c d)).lo, .int (Iv.hull (iv a b) (iv c d)).hi] := rfl
theorem s119_pre (a b c d : D) : s119.pre [a, b, c, d] = ((Iv.Vd (iv a b) ∧ Iv.Vd (iv c d)) ∧ Iv.Vd (Iv.hull (iv a b) (iv c d))) := rfl
end Go.Proofs.YteaiikmijhikpaaGreatDoor
end
section
namespace Go.Proofs.YteaiikmijhikpaaGreatDoor
open Go Go.Sx Bz
set_option maxRecDepth 100000

theorem iv_en (X : Iv.I) : iv (.int X.lo) (.int X.hi) = X := id rfl
theorem iat0 (ds : List D) : iv (ds.getD 0 default) (ds.getD 1 default) = iat ds 0 := id rfl
theorem iat1 (ds : List D) : iv (ds.getD 1 default) (ds.getD 2 default) = iat ds 1 := id rfl
theorem iat2 (ds : List D) : iv (ds.getD 2 default) (ds.getD 3 default) = iat ds 2 := id rfl
theorem iat3 (ds : List D) : iv (ds.getD 3 default) (ds.getD 4 default) = iat ds 3 := id rfl
theorem iat4 (ds : List D) : iv (ds.getD 4 default) (ds.getD 5 default) = iat ds 4 := id rfl
theorem iat5 (ds : List D) : iv (ds.getD 5 default) (ds.getD 6 default) = iat ds 5 := id rfl
theorem iat6 (ds : List D) : iv (ds.getD 6 default) (ds.getD 7 default) = iat ds 6 := id rfl
theorem iat7 (ds : List D) : iv (ds.getD 7 default) (ds.getD 8 default) = iat ds 7 := id rfl
theorem iat8 (ds : List D) : iv (ds.getD 8 default) (ds.getD 9 default) = iat ds 8 := id rfl
theorem iat9 (ds : List D) : iv (ds.getD 9 default) (ds.getD 10 default) = iat ds 9 := id rfl
theorem iat10 (ds : List D) : iv (ds.getD 10 default) (ds.getD 11 default) = iat ds 10 := id rfl
theorem iat11 (ds : List D) : iv (ds.getD 11 default) (ds.getD 12 default) = iat ds 11 := id rfl

theorem corner_bad {p q : Int} (hq : 0 < q) (h : 17592186044416 < (p.natAbs : Int) / q) : Iv.fl p q < -17592186044416 ∨ 17592186044416 < Iv.ce p q := by
  have h1 := Iv.fl_le_ce (n := p) hq
  rcases Int.le_total 0 p with hp | hp
  · right
    have e : (p.natAbs : Int) = p := by omega
    rw [e] at h
    have : Iv.fl p q = p / q := rfl
    omega
  · left
    have e : (p.natAbs : Int) = -p := by omega
    rw [e] at h
    have : Iv.ce p q = -(-p / q) := rfl
    omega
theorem corner_ok {p q : Int} (hq : 0 < q) (h : ¬ 17592186044416 < (p.natAbs : Int) / q) : True := trivial
/-- compositor/interval.Mul -/
def c73 : Con := { f := 73, ps := [.agg [.int .i64, .int .i64], .agg [.int .i64, .int .i64]], rs := [.agg [.int .i64, .int .i64], .at (.bool)] }
def t73 : Lt :=
 (.call 0 [.v 0, .v 1] 1
 (.ask (.v 4)
  (.call 0 [.v 2, .v 3] 1
  (.ask (.v 5)
   (.call 1 [.v 0, .v 2, .lit (.int (1099511627776))] 3
   (.ask (.v 8)
    (.call 1 [.v 0, .v 3, .lit (.int (1099511627776))] 3
    (.ask (.v 11)
     (.call 1 [.v 1, .v 2, .lit (.int (1099511627776))] 3
     (.ask (.v 14)
      (.call 1 [.v 1, .v 3, .lit (.int (1099511627776))] 3
      (.ask (.v 17)
       (.call 2 [.app .mn [.app .mn [.app .mn [.app .mn [.v 6, .v 6], .v 9], .v 12], .v 15], .app .mx [.app .mx [.app .mx [.app .mx [.v 7, .v 7], .v 10], .v 13], .v 16], .lit (.bool true)] 3
       (.ret (.done [.v 18, .v 19, .v 20])))
       (.ret (.done [.lit (.int (0)), .lit (.int (0)), .lit (.bool false)]))))
      (.ret (.done [.lit (.int (0)), .lit (.int (0)), .lit (.bool false)]))))
     (.ret (.done [.lit (.int (0)), .lit (.int (0)), .lit (.bool false)]))))
    (.ret (.done [.lit (.int (0)), .lit (.int (0)), .lit (.bool false)]))))
   (.ret (.done [.lit (.int (0)), .lit (.int (0)), .lit (.bool false)]))))
  (.ret (.done [.lit (.int (0)), .lit (.int (0)), .lit (.bool false)]))))
theorem t73_eq : ((fnC (PV.fast Tryz.prog) G (([s24, s126, s169] : List Sx.Spec).map (·.con)) [] 300 c73 20).prune []).toTr = t73.expand (vars 4) := by kernel_rfl

def f73 (ds : List D) : List D := okI (Iv.mul (iat ds 0) (iat ds 2))
def s73 : Sx.Spec := { con := { c73 with fold := some f73 }, pre := fun ds => Iv.Vd (iat ds 0) ∧ Iv.Vd (iat ds 2), fn := f73 }
theorem s73_ok : s73.Ok Tryz.prog G := lspec_ok [s24, s126, s169] (by simp only [List.mem_cons, List.not_mem_nil, or_false, forall_eq_or_imp, forall_eq]; exact ⟨s24_ok, s126_ok, s169_ok⟩) s73 300 20 (fun g hg ds _ => by simp only [s73, Option.some.injEq] at hg ⊢; rw [hg]) t73 4 t73_eq (by
  intro ds h
  obtain ⟨h1, h2⟩ := h
  have b1 : _ ∧ _ := iv_b (a := ds.getD 0 default) (b := ds.getD 1 default) h1
  have b2 : _ ∧ _ := iv_b (a := ds.getD 2 default) (b := ds.getD 3 default) h2
  have v1 : s24.fn [ds.getD 0 default, ds.getD 1 default] = [.bool true] := s24_iv h1
  have v2 : s24.fn [ds.getD 2 default, ds.getD 3 default] = [.bool true] := s24_iv h2
  have hg : s73.fn ds = okI (Iv.mul (iat ds 0) (iat ds 2)) := rfl
  rw [hg]
  have e1 : s126.fn [ds.getD 0 default, ds.getD 2 default, .int 1099511627776] = if 17592186044416 < (((ds.getD 0 default).toInt * (ds.getD 2 default).toInt).natAbs : Int) / 1099511627776 then [.int 0, .int 0, .bool false] else [.int (Iv.fl ((ds.getD 0 default).toInt * (ds.getD 2 default).toInt) (1099511627776)), .int (Iv.ce ((ds.getD 0 default).toInt * (ds.getD 2 default).toInt) (1099511627776)), .bool true] := s126_val (by omega) (by omega) (by simp only [D.toInt_int]; omega)
  have e2 : s126.fn [ds.getD 0 default, ds.getD 3 default, .int 1099511627776] = if 17592186044416 < (((ds.getD 0 default).toInt * (ds.getD 3 default).toInt).natAbs : Int) / 1099511627776 then [.int 0, .int 0, .bool false] else [.int (Iv.fl ((ds.getD 0 default).toInt * (ds.getD 3 default).toInt) (1099511627776)), .int (Iv.ce ((ds.getD 0 default).toInt * (ds.getD 3 default).toInt) (1099511627776)), .bool true] := s126_val (by omega) (by omega) (by simp only [D.toInt_int]; omega)
  have e3 : s126.fn [ds.getD 1 default, ds.getD 2 default, .int 1099511627776] = if 17592186044416 < (((ds.getD 1 default).toInt * (ds.getD 2 default).toInt).natAbs : Int) / 1099511627776 then [.int 0, .int 0, .bool false] else [.int (Iv.fl ((ds.getD 1 default).toInt * (ds.getD 2 default).toInt) (1099511627776)), .int (Iv.ce ((ds.getD 1 default).toInt * (ds.getD 2 default).toInt) (1099511627776)), .bool true] := s126_val (by omega) (by omega) (by simp only [D.toInt_int]; omega)
  have e4 : s126.fn [ds.getD 1 default, ds.getD 3 default, .int 1099511627776] = if 17592186044416 < (((ds.getD 1 default).toInt * (ds.getD 3 default).toInt).natAbs : Int) / 1099511627776 then [.int 0, .int 0, .bool false] else [.int (Iv.fl ((ds.getD 1 default).toInt * (ds.getD 3 default).toInt) (1099511627776)), .int (Iv.ce ((ds.getD 1 default).toInt * (ds.getD 3 default).toInt) (1099511627776)), .bool true] := s126_val (by omega) (by omega) (by simp only [D.toInt_int]; omega)
  have bad : ∀ p q : Int, 0 < q → 17592186044416 < (p.natAbs : Int) / q → (Iv.mul (iat ds 0) (iat ds 2)).lo ≤ Iv.fl p q → Iv.ce p q ≤ (Iv.mul (iat ds 0) (iat ds 2)).hi → ¬ Iv.Vd (Iv.mul (iat ds 0) (iat ds 2)) := fun p q hq hb h1 h2 h => by
    have := corner_bad hq hb
    unfold Iv.Vd at h
    omega
  have em : (Iv.mul (iat ds 0) (iat ds 2)).lo = min (min (min (Iv.fl ((ds.getD 0 default).toInt * (ds.getD 2 default).toInt) (1099511627776)) (Iv.fl ((ds.getD 0 default).toInt * (ds.getD 3 default).toInt) (1099511627776))) (Iv.fl ((ds.getD 1 default).toInt * (ds.getD 2 default).toInt) (1099511627776))) (Iv.fl ((ds.getD 1 default).toInt * (ds.getD 3 default).toInt) (1099511627776)) := rfl
  have ex : (Iv.mul (iat ds 0) (iat ds 2)).hi = max (max (max (Iv.ce ((ds.getD 0 default).toInt * (ds.getD 2 default).toInt) (1099511627776)) (Iv.ce ((ds.getD 0 default).toInt * (ds.getD 3 default).toInt) (1099511627776))) (Iv.ce ((ds.getD 1 default).toInt * (ds.getD 2 default).toInt) (1099511627776))) (Iv.ce ((ds.getD 1 default).toInt * (ds.getD 3 default).toInt) (1099511627776)) := rfl
  by_cases c1 : 17592186044416 < (((ds.getD 0 default).toInt * (ds.getD 2 default).toInt).natAbs : Int) / 1099511627776
  · rw [if_pos c1] at e1
    simp only [t73, Nat.reduceAdd, Lt.holds, Lt.safe, Lt.run, Leaf.at, LeafV.Ok, envOf, resD, T.eval, T.evals, pe_ar, pe_wrap, pe_mn, pe_mx, pe_cm, pe_not, pe_beq, pe_ite, pe_len, pe_slen, pe_sat, pe_xt, pe_call, fnOf, preOf, cm_eq, cm_ne, cm_lt, cm_le, cm_gt, cm_ge, ar_add, ar_sub, ar_mul, ar_quo, ar_rem, ar_shl, ar_shr, wrap_u64, wrap_i64, wrap_u8, wrap_u16, List.getD_cons_zero, List.getD_cons_succ, List.cons_append, List.nil_append, D.toInt_int, D.toBool_bool, decide_eq_true_eq, decide_eq_false_iff_not, Bool.not_eq_true, Bool.not_eq_false, p24, p169, pre126, v1, v2, e1, true_and, true_implies, Bool.true_eq_false, Bool.false_eq_true, false_implies, and_true]
    rw [okI_no (bad ((ds.getD 0 default).toInt * (ds.getD 2 default).toInt) (1099511627776) (by decide) c1 (by rw [em]; omega) (by rw [ex]; omega))]
    exact ⟨⟨by decide, by decide⟩, AgreeS.refl _ _⟩
  rw [if_neg c1] at e1
  by_cases c2 : 17592186044416 < (((ds.getD 0 default).toInt * (ds.getD 3 default).toInt).natAbs : Int) / 1099511627776
  · rw [if_pos c2] at e2
    simp only [t73, Nat.reduceAdd, Lt.holds, Lt.safe, Lt.run, Leaf.at, LeafV.Ok, envOf, resD, T.eval, T.evals, pe_ar, pe_wrap, pe_mn, pe_mx, pe_cm, pe_not, pe_beq, pe_ite, pe_len, pe_slen, pe_sat, pe_xt, pe_call, fnOf, preOf, cm_eq, cm_ne, cm_lt, cm_le, cm_gt, cm_ge, ar_add, ar_sub, ar_mul, ar_quo, ar_rem, ar_shl, ar_shr, wrap_u64, wrap_i64, wrap_u8, wrap_u16, List.getD_cons_zero, List.getD_cons_succ, List.cons_append, List.nil_append, D.toInt_int, D.toBool_bool, decide_eq_true_eq, decide_eq_false_iff_not, Bool.not_eq_true, Bool.not_eq_false, p24, p169, pre126, v1, v2, e1, e2, true_and, true_implies, Bool.true_eq_false, Bool.false_eq_true, false_implies, and_true]
    rw [okI_no (bad ((ds.getD 0 default).toInt * (ds.getD 3 default).toInt) (1099511627776) (by decide) c2 (by rw [em]; omega) (by rw [ex]; omega))]
    exact ⟨⟨by decide, by decide⟩, ⟨by decide, by decide⟩, AgreeS.refl _ _⟩
  rw [if_neg c2] at e2
  by_cases c3 : 17592186044416 < (((ds.getD 1 default).toInt * (ds.getD 2 default).toInt).natAbs : Int) / 1099511627776
  · rw [if_pos c3] at e3
    simp only [t73, Nat.reduceAdd, Lt.holds, Lt.safe, Lt.run, Leaf.at, LeafV.Ok, envOf, resD, T.eval, T.evals, pe_ar, pe_wrap, pe_mn, pe_mx, pe_cm, pe_not, pe_beq, pe_ite, pe_len, pe_slen, pe_sat, pe_xt, pe_call, fnOf, preOf, cm_eq, cm_ne, cm_lt, cm_le, cm_gt, cm_ge, ar_add, ar_sub, ar_mul, ar_quo, ar_rem, ar_shl, ar_shr, wrap_u64, wrap_i64, wrap_u8, wrap_u16, List.getD_cons_zero, List.getD_cons_succ, List.cons_append, List.nil_append, D.toInt_int, D.toBool_bool, decide_eq_true_eq, decide_eq_false_iff_not, Bool.not_eq_true, Bool.not_eq_false, p24, p169, pre126, v1, v2, e1, e2, e3, true_and, true_implies, Bool.true_eq_false, Bool.false_eq_true, false_implies, and_true]
    rw [okI_no (bad ((ds.getD 1 default).toInt * (ds.getD 2 default).toInt) (1099511627776) (by decide) c3 (by rw [em]; omega) (by rw [ex]; omega))]
    exact ⟨⟨by decide, by decide⟩, ⟨by decide, by decide⟩, ⟨by decide, by decide⟩, AgreeS.refl _ _⟩
  rw [if_neg c3] at e3
  by_cases c4 : 17592186044416 < (((ds.getD 1 default).toInt * (ds.getD 3 default).toInt).natAbs : Int) / 1099511627776
  · rw [if_pos c4] at e4
    simp only [t73, Nat.reduceAdd, Lt.holds, Lt.safe, Lt.run, Leaf.at, LeafV.Ok, envOf, resD, T.eval, T.evals, pe_ar, pe_wrap, pe_mn, pe_mx, pe_cm, pe_not, pe_beq, pe_ite, pe_len, pe_slen, pe_sat, pe_xt, pe_call, fnOf, preOf, cm_eq, cm_ne, cm_lt, cm_le, cm_gt, cm_ge, ar_add, ar_sub, ar_mul, ar_quo, ar_rem, ar_shl, ar_shr, wrap_u64, wrap_i64, wrap_u8, wrap_u16, List.getD_cons_zero, List.getD_cons_succ, List.cons_append, List.nil_append, D.toInt_int, D.toBool_bool, decide_eq_true_eq, decide_eq_false_iff_not, Bool.not_eq_true, Bool.not_eq_false, p24, p169, pre126, v1, v2, e1, e2, e3, e4, true_and, true_implies, Bool.true_eq_false, Bool.false_eq_true, false_implies, and_true]
    rw [okI_no (bad ((ds.getD 1 default).toInt * (ds.getD 3 default).toInt) (1099511627776) (by decide) c4 (by rw [em]; omega) (by rw [ex]; omega))]
    exact ⟨⟨by decide, by decide⟩, ⟨by decide, by decide⟩, ⟨by decide, by decide⟩, ⟨by decide, by decide⟩, AgreeS.refl _ _⟩
  rw [if_neg c4] at e4
  have e5 := s169_ok2 (Iv.mul (iat ds 0) (iat ds 2))
  rw [em, ex] at e5
  simp only [t73, Nat.reduceAdd, Lt.holds, Lt.safe, Lt.run, Leaf.at, LeafV.Ok, envOf, resD, T.eval, T.evals, pe_ar, pe_wrap, pe_mn, pe_mx, pe_cm, pe_not, pe_beq, pe_ite, pe_len, pe_slen, pe_sat, pe_xt, pe_call, fnOf, preOf, cm_eq, cm_ne, cm_lt, cm_le, cm_gt, cm_ge, ar_add, ar_sub, ar_mul, ar_quo, ar_rem, ar_shl, ar_shr, wrap_u64, wrap_i64, wrap_u8, wrap_u16, List.getD_cons_zero, List.getD_cons_succ, List.cons_append, List.nil_append, D.toInt_int, D.toBool_bool, decide_eq_true_eq, decide_eq_false_iff_not, Bool.not_eq_true, Bool.not_eq_false, p24, p169, pre126, v1, v2, e1, e2, e3, e4, Int.min_self, Int.max_self, e5, okI_3, true_and, true_implies, Bool.true_eq_false, Bool.false_eq_true, false_implies, and_true]
  exact ⟨⟨by decide, by decide⟩, ⟨by decide, by decide⟩, ⟨by decide, by decide⟩, ⟨by decide, by decide⟩, AgreeS.refl _ _⟩)
theorem s73_fn (a b c d : D) : s73.fn [a, b, c, d] = okI (Iv.mul (iv a b) (iv c d)) := rfl
theorem s73_pre (a b c d : D) : s73.pre [a, b, c, d] = (Iv.Vd (iv a b) ∧ Iv.Vd (iv c d)) := rfl
/-- compositor/interval.Div -/
def c171 : Con := { f := 171, ps := [.agg [.int .i64, .int .i64], .agg [.int .i64, .int .i64]], rs := [.agg [.int .i64, .int .i64], .at (.bool)] }
def t171 : Lt :=
 (.call 0 [.v 0, .v 1] 1
 (.ask (.v 4)
  (.call 0 [.v 2, .v 3] 1
  (.ask (.v 5)
   (.ask (.app (.cm .le) [.v 2, .lit (.int (0))])
    (.ret (.done [.lit (.int (0)), .lit (.int (0)), .lit (.bool false)]))
    (.call 1 [.v 0, .lit (.int (1099511627776)), .v 2] 3
    (.ask (.v 8)
     (.call 1 [.v 0, .lit (.int (1099511627776)), .v 3] 3
     (.ask (.v 11)
      (.call 1 [.v 1, .lit (.int (1099511627776)), .v 2] 3
      (.ask (.v 14)
       (.call 1 [.v 1, .lit (.int (1099511627776)), .v 3] 3
       (.ask (.v 17)
        (.call 2 [.app .mn [.app .mn [.app .mn [.app .mn [.v 6, .v 6], .v 9], .v 12], .v 15], .app .mx [.app .mx [.app .mx [.app .mx [.v 7, .v 7], .v 10], .v 13], .v 16], .lit (.bool true)] 3
        (.ret (.done [.v 18, .v 19, .v 20])))
        (.ret (.done [.lit (.int (0)), .lit (.int (0)), .lit (.bool false)]))))
       (.ret (.done [.lit (.int (0)), .lit (.int (0)), .lit (.bool false)]))))
      (.ret (.done [.lit (.int (0)), .lit (.int (0)), .lit (.bool false)]))))
     (.ret (.done [.lit (.int (0)), .lit (.int (0)), .lit (.bool false)])))))
   (.ret (.done [.lit (.int (0)), .lit (.int (0)), .lit (.bool false)]))))
  (.ret (.done [.lit (.int (0)), .lit (.int (0)), .lit (.bool false)]))))
theorem t171_eq : ((fnC (PV.fast Tryz.prog) G (([s24, s126, s169] : List Sx.Spec).map (·.con)) [] 300 c171 20).prune []).toTr = t171.expand (vars 4) := by kernel_rfl

def f171 (ds : List D) : List D := if 0 < (iat ds 2).lo then okI (Iv.div (iat ds 0) (iat ds 2)) else [.int 0, .int 0, .bool false]
def s171 : Sx.Spec := { con := { c171 with fold := some f171 }, pre := fun ds => Iv.Vd (iat ds 0) ∧ Iv.Vd (iat ds 2), fn := f171 }
theorem s171_ok : s171.Ok Tryz.prog G := lspec_ok [s24, s126, s169] (by simp only [List.mem_cons, List.not_mem_nil, or_false, forall_eq_or_imp, forall_eq]; exact ⟨s24_ok, s126_ok, s169_ok⟩) s171 300 20 (fun g hg ds _ => by simp only [s171, Option.some.injEq] at hg ⊢; rw [hg]) t171 4 t171_eq (by
  intro ds h
  obtain ⟨h1, h2⟩ := h
  have b1 : _ ∧ _ := iv_b (a := ds.getD 0 default) (b := ds.getD 1 default) h1
  have b2 : _ ∧ _ := iv_b (a := ds.getD 2 default) (b := ds.getD 3 default) h2
  have v1 : s24.fn [ds.getD 0 default, ds.getD 1 default] = [.bool true] := s24_iv h1
  have v2 : s24.fn [ds.getD 2 default, ds.getD 3 default] = [.bool true] := s24_iv h2
  have hg : s171.fn ds = if 0 < (ds.getD 2 default).toInt then okI (Iv.div (iat ds 0) (iat ds 2)) else [.int 0, .int 0, .bool false] := rfl
  rw [hg]
  by_cases hpos : 0 < (ds.getD 2 default).toInt
  case neg =>
    rw [if_neg hpos]
    have hlo : ((ds.getD 2 default).toInt ≤ 0) = True := eq_true (by omega)
    simp only [t171, Nat.reduceAdd, Lt.holds, Lt.safe, Lt.run, Leaf.at, LeafV.Ok, envOf, resD, T.eval, T.evals, pe_ar, pe_wrap, pe_mn, pe_mx, pe_cm, pe_not, pe_beq, pe_ite, pe_len, pe_slen, pe_sat, pe_xt, pe_call, fnOf, preOf, cm_eq, cm_ne, cm_lt, cm_le, cm_gt, cm_ge, ar_add, ar_sub, ar_mul, ar_quo, ar_rem, ar_shl, ar_shr, wrap_u64, wrap_i64, wrap_u8, wrap_u16, List.getD_cons_zero, List.getD_cons_succ, List.cons_append, List.nil_append, D.toInt_int, D.toBool_bool, decide_eq_true_eq, decide_eq_false_iff_not, Bool.not_eq_true, Bool.not_eq_false, p24, p169, pre126, v1, v2, hlo, true_and, true_implies, Bool.true_eq_false, Bool.false_eq_true, false_implies, and_true, not_true_eq_false]
    exact AgreeS.refl _ _
  rw [if_pos hpos]
  have hle : (ds.getD 2 default).toInt ≤ (ds.getD 3 default).toInt := h2.1
  have hlo : ((ds.getD 2 default).toInt ≤ 0) = False := eq_false (by omega)
  have e1 : s126.fn [ds.getD 0 default, .int 1099511627776, ds.getD 2 default] = if 17592186044416 < (((ds.getD 0 default).toInt * 1099511627776).natAbs : Int) / (ds.getD 2 default).toInt then [.int 0, .int 0, .bool false] else [.int (Iv.fl ((ds.getD 0 default).toInt * 1099511627776) ((ds.getD 2 default).toInt)), .int (Iv.ce ((ds.getD 0 default).toInt * 1099511627776) ((ds.getD 2 default).toInt)), .bool true] := s126_val (by omega) (by simp only [D.toInt_int]; omega) (by omega)
  have e2 : s126.fn [ds.getD 0 default, .int 1099511627776, ds.getD 3 default] = if 17592186044416 < (((ds.getD 0 default).toInt * 1099511627776).natAbs : Int) / (ds.getD 3 default).toInt then [.int 0, .int 0, .bool false] else [.int (Iv.fl ((ds.getD 0 default).toInt * 1099511627776) ((ds.getD 3 default).toInt)), .int (Iv.ce ((ds.getD 0 default).toInt * 1099511627776) ((ds.getD 3 default).toInt)), .bool true] := s126_val (by omega) (by simp only [D.toInt_int]; omega) (by omega)
  have e3 : s126.fn [ds.getD 1 default, .int 1099511627776, ds.getD 2 default] = if 17592186044416 < (((ds.getD 1 default).toInt * 1099511627776).natAbs : Int) / (ds.getD 2 default).toInt then [.int 0, .int 0, .bool false] else [.int (Iv.fl ((ds.getD 1 default).toInt * 1099511627776) ((ds.getD 2 default).toInt)), .int (Iv.ce ((ds.getD 1 default).toInt * 1099511627776) ((ds.getD 2 default).toInt)), .bool true] := s126_val (by omega) (by simp only [D.toInt_int]; omega) (by omega)
  have e4 : s126.fn [ds.getD 1 default, .int 1099511627776, ds.getD 3 default] = if 17592186044416 < (((ds.getD 1 default).toInt * 1099511627776).natAbs : Int) / (ds.getD 3 default).toInt then [.int 0, .int 0, .bool false] else [.int (Iv.fl ((ds.getD 1 default).toInt * 1099511627776) ((ds.getD 3 default).toInt)), .int (Iv.ce ((ds.getD 1 default).toInt * 1099511627776) ((ds.getD 3 default).toInt)), .bool true] := s126_val (by omega) (by simp only [D.toInt_int]; omega) (by omega)
  have bad : ∀ p q : Int, 0 < q → 17592186044416 < (p.natAbs : Int) / q → (Iv.div (iat ds 0) (iat ds 2)).lo ≤ Iv.fl p q → Iv.ce p q ≤ (Iv.div (iat ds 0) (iat ds 2)).hi → ¬ Iv.Vd (Iv.div (iat ds 0) (iat ds 2)) := fun p q hq hb h1 h2 h => by
    have := corner_bad hq hb
    unfold Iv.Vd at h
    omega
  have em : (Iv.div (iat ds 0) (iat ds 2)).lo = min (min (min (Iv.fl ((ds.getD 0 default).toInt * 1099511627776) ((ds.getD 2 default).toInt)) (Iv.fl ((ds.getD 0 default).toInt * 1099511627776) ((ds.getD 3 default).toInt))) (Iv.fl ((ds.getD 1 default).toInt * 1099511627776) ((ds.getD 2 default).toInt))) (Iv.fl ((ds.getD 1 default).toInt * 1099511627776) ((ds.getD 3 default).toInt)) := rfl
  have ex : (Iv.div (iat ds 0) (iat ds 2)).hi = max (max (max (Iv.ce ((ds.getD 0 default).toInt * 1099511627776) ((ds.getD 2 default).toInt)) (Iv.ce ((ds.getD 0 default).toInt * 1099511627776) ((ds.getD 3 default).toInt))) (Iv.ce ((ds.getD 1 default).toInt * 1099511627776) ((ds.getD 2 default).toInt))) (Iv.ce ((ds.getD 1 default).toInt * 1099511627776) ((ds.getD 3 default).toInt)) := rfl
  by_cases c1 : 17592186044416 < (((ds.getD 0 default).toInt * 1099511627776).natAbs : Int) / (ds.getD 2 default).toInt
  · rw [if_pos c1] at e1
    simp only [t171, Nat.reduceAdd, Lt.holds, Lt.safe, Lt.run, Leaf.at, LeafV.Ok, envOf, resD, T.eval, T.evals, pe_ar, pe_wrap, pe_mn, pe_mx, pe_cm, pe_not, pe_beq, pe_ite, pe_len, pe_slen, pe_sat, pe_xt, pe_call, fnOf, preOf, cm_eq, cm_ne, cm_lt, cm_le, cm_gt, cm_ge, ar_add, ar_sub, ar_mul, ar_quo, ar_rem, ar_shl, ar_shr, wrap_u64, wrap_i64, wrap_u8, wrap_u16, List.getD_cons_zero, List.getD_cons_succ, List.cons_append, List.nil_append, D.toInt_int, D.toBool_bool, decide_eq_true_eq, decide_eq_false_iff_not, Bool.not_eq_true, Bool.not_eq_false, p24, p169, pre126, v1, v2, e1, hlo, true_and, true_implies, not_false_eq_true, Bool.true_eq_false, Bool.false_eq_true, false_implies, and_true]
    rw [okI_no (bad ((ds.getD 0 default).toInt * 1099511627776) ((ds.getD 2 default).toInt) (by omega) c1 (by rw [em]; omega) (by rw [ex]; omega))]
    exact ⟨⟨by omega, by omega⟩, AgreeS.refl _ _⟩
  rw [if_neg c1] at e1
  by_cases c2 : 17592186044416 < (((ds.getD 0 default).toInt * 1099511627776).natAbs : Int) / (ds.getD 3 default).toInt
  · rw [if_pos c2] at e2
    simp only [t171, Nat.reduceAdd, Lt.holds, Lt.safe, Lt.run, Leaf.at, LeafV.Ok, envOf, resD, T.eval, T.evals, pe_ar, pe_wrap, pe_mn, pe_mx, pe_cm, pe_not, pe_beq, pe_ite, pe_len, pe_slen, pe_sat, pe_xt, pe_call, fnOf, preOf, cm_eq, cm_ne, cm_lt, cm_le, cm_gt, cm_ge, ar_add, ar_sub, ar_mul, ar_quo, ar_rem, ar_shl, ar_shr, wrap_u64, wrap_i64, wrap_u8, wrap_u16, List.getD_cons_zero, List.getD_cons_succ, List.cons_append, List.nil_append, D.toInt_int, D.toBool_bool, decide_eq_true_eq, decide_eq_false_iff_not, Bool.not_eq_true, Bool.not_eq_false, p24, p169, pre126, v1, v2, e1, e2, hlo, true_and, true_implies, not_false_eq_true, Bool.true_eq_false, Bool.false_eq_true, false_implies, and_true]
    rw [okI_no (bad ((ds.getD 0 default).toInt * 1099511627776) ((ds.getD 3 default).toInt) (by omega) c2 (by rw [em]; omega) (by rw [ex]; omega))]
    exact ⟨⟨by omega, by omega⟩, ⟨by omega, by omega⟩, AgreeS.refl _ _⟩
  rw [if_neg c2] at e2
  by_cases c3 : 17592186044416 < (((ds.getD 1 default).toInt * 1099511627776).natAbs : Int) / (ds.getD 2 default).toInt
  · rw [if_pos c3] at e3
    simp only [t171, Nat.reduceAdd, Lt.holds, Lt.safe, Lt.run, Leaf.at, LeafV.Ok, envOf, resD, T.eval, T.evals, pe_ar, pe_wrap, pe_mn, pe_mx, pe_cm, pe_not, pe_beq, pe_ite, pe_len, pe_slen, pe_sat, pe_xt, pe_call, fnOf, preOf, cm_eq, cm_ne, cm_lt, cm_le, cm_gt, cm_ge, ar_add, ar_sub, ar_mul, ar_quo, ar_rem, ar_shl, ar_shr, wrap_u64, wrap_i64, wrap_u8, wrap_u16, List.getD_cons_zero, List.getD_cons_succ, List.cons_append, List.nil_append, D.toInt_int, D.toBool_bool, decide_eq_true_eq, decide_eq_false_iff_not, Bool.not_eq_true, Bool.not_eq_false, p24, p169, pre126, v1, v2, e1, e2, e3, hlo, true_and, true_implies, not_false_eq_true, Bool.true_eq_false, Bool.false_eq_true, false_implies, and_true]
    rw [okI_no (bad ((ds.getD 1 default).toInt * 1099511627776) ((ds.getD 2 default).toInt) (by omega) c3 (by rw [em]; omega) (by rw [ex]; omega))]
    exact ⟨⟨by omega, by omega⟩, ⟨by omega, by omega⟩, ⟨by omega, by omega⟩, AgreeS.refl _ _⟩
  rw [if_neg c3] at e3
  by_cases c4 : 17592186044416 < (((ds.getD 1 default).toInt * 1099511627776).natAbs : Int) / (ds.getD 3 default).toInt
  · rw [if_pos c4] at e4
    simp only [t171, Nat.reduceAdd, Lt.holds, Lt.safe, Lt.run, Leaf.at, LeafV.Ok, envOf, resD, T.eval, T.evals, pe_ar, pe_wrap, pe_mn, pe_mx, pe_cm, pe_not, pe_beq, pe_ite, pe_len, pe_slen, pe_sat, pe_xt, pe_call, fnOf, preOf, cm_eq, cm_ne, cm_lt, cm_le, cm_gt, cm_ge, ar_add, ar_sub, ar_mul, ar_quo, ar_rem, ar_shl, ar_shr, wrap_u64, wrap_i64, wrap_u8, wrap_u16, List.getD_cons_zero, List.getD_cons_succ, List.cons_append, List.nil_append, D.toInt_int, D.toBool_bool, decide_eq_true_eq, decide_eq_false_iff_not, Bool.not_eq_true, Bool.not_eq_false, p24, p169, pre126, v1, v2, e1, e2, e3, e4, hlo, true_and, true_implies, not_false_eq_true, Bool.true_eq_false, Bool.false_eq_true, false_implies, and_true]
    rw [okI_no (bad ((ds.getD 1 default).toInt * 1099511627776) ((ds.getD 3 default).toInt) (by omega) c4 (by rw [em]; omega) (by rw [ex]; omega))]
    exact ⟨⟨by omega, by omega⟩, ⟨by omega, by omega⟩, ⟨by omega, by omega⟩, ⟨by omega, by omega⟩, AgreeS.refl _ _⟩
  rw [if_neg c4] at e4
  have e5 := s169_ok2 (Iv.div (iat ds 0) (iat ds 2))
  rw [em, ex] at e5
  simp only [t171, Nat.reduceAdd, Lt.holds, Lt.safe, Lt.run, Leaf.at, LeafV.Ok, envOf, resD, T.eval, T.evals, pe_ar, pe_wrap, pe_mn, pe_mx, pe_cm, pe_not, pe_beq, pe_ite, pe_len, pe_slen, pe_sat, pe_xt, pe_call, fnOf, preOf, cm_eq, cm_ne, cm_lt, cm_le, cm_gt, cm_ge, ar_add, ar_sub, ar_mul, ar_quo, ar_rem, ar_shl, ar_shr, wrap_u64, wrap_i64, wrap_u8, wrap_u16, List.getD_cons_zero, List.getD_cons_succ, List.cons_append, List.nil_append, D.toInt_int, D.toBool_bool, decide_eq_true_eq, decide_eq_false_iff_not, Bool.not_eq_true, Bool.not_eq_false, p24, p169, pre126, v1, v2, e1, e2, e3, e4, Int.min_self, Int.max_self, e5, okI_3, hlo, true_and, true_implies, not_false_eq_true, Bool.true_eq_false, Bool.false_eq_true, false_implies, and_true]
  exact ⟨⟨by omega, by omega⟩, ⟨by omega, by omega⟩, ⟨by omega, by omega⟩, ⟨by omega, by omega⟩, AgreeS.refl _ _⟩)
theorem s171_fn (a b c d : D) : s171.fn [a, b, c, d] = if 0 < (iv c d).lo then okI (Iv.div (iv a b) (iv c d)) else [.int 0, .int 0, .bool false] := rfl
theorem s171_pre (a b c d : D) : s171.pre [a, b, c, d] = (Iv.Vd (iv a b) ∧ Iv.Vd (iv c d)) := rfl
end Go.Proofs.YteaiikmijhikpaaGreatDoor
end
section
namespace Go.Proofs.YteaiikmijhikpaaGreatDoor
open Go Go.Sx Bz
set_option maxRecDepth 100000

theorem isqGo_eq : ∀ (k x n : Nat), isqGo k x n = Iv.isqGo k x n
  | 0, _, _ => rfl
  | k + 1, x, n => by simp only [isqGo, Iv.isqGo, isqGo_eq k]
theorem isq_eq (n : Nat) : isq n = Iv.isq n := isqGo_eq 64 0 n
theorem p172 (l : List D) : s172.pre l = True := rfl
theorem p174 (l : List D) : s174.pre l = True := rfl
/-- The root of a product of two words. -/
theorem s173_val {x : Int} (h0 : 0 ≤ x) (h : x < 340282366920938463463374607431768211456) : s173.fn [.int (x / 18446744073709551616), .int (x % 18446744073709551616)] = [.int ((Iv.isq x.toNat : Nat) : Int)] := by
  have e : wN (.int (x / 18446744073709551616)) (.int (x % 18446744073709551616)) = x.toNat := by
    unfold wN
    rw [D.toInt_int, D.toInt_int]
    omega
  show [D.int (isq (wN (.int (x / 18446744073709551616)) (.int (x % 18446744073709551616))))] = _
  rw [e, isq_eq]
theorem s174_at {x y : Int} (hx : 0 ≤ x) (hy : 0 ≤ y) : s174.fn [.int (x / 18446744073709551616), .int (x % 18446744073709551616), .int (y / 18446744073709551616), .int (y % 18446744073709551616)] = [.int (if x < y then -1 else if y < x then 1 else 0)] := by
  rw [s174_val _ _ _ _ (by rw [D.toInt_int]; omega) (by rw [D.toInt_int]; omega) (by rw [D.toInt_int]; omega) (by rw [D.toInt_int]; omega)]
  simp only [D.toInt_int, Int.mul_comm _ 18446744073709551616, Int.mul_ediv_add_emod]
/-- compositor/interval.Sqrt -/
def c123 : Con := { f := 123, ps := [.agg [.int .i64, .int .i64]], rs := [.agg [.int .i64, .int .i64], .at (.bool)] }
def t123 : Lt :=
 (.call 0 [.v 0, .v 1] 1
 (.ask (.v 2)
  (.ask (.app (.cm .lt) [.v 0, .lit (.int (0))])
   (.ret (.done [.lit (.int (0)), .lit (.int (0)), .lit (.bool false)]))
   (.call 1 [.app (.wrap .u64) [.v 1], .lit (.int (1099511627776))] 2
   (.call 2 [.v 3, .v 4] 1
   (.call 1 [.v 5, .v 5] 2
   (.call 3 [.v 6, .v 7, .v 3, .v 4] 1
   (.ask (.app (.cm .lt) [.v 8, .lit (.int (0))])
    (.call 1 [.app (.wrap .u64) [.v 0], .lit (.int (1099511627776))] 2
    (.call 2 [.v 9, .v 10] 1
    (.call 4 [.app (.wrap .i64) [.v 11], .app (.wrap .i64) [.app (.ar .add .u64) [.v 5, .lit (.int (1))]], .lit (.bool true)] 3
    (.ret (.done [.v 12, .v 13, .v 14])))))
    (.call 1 [.app (.wrap .u64) [.v 0], .lit (.int (1099511627776))] 2
    (.call 2 [.v 9, .v 10] 1
    (.call 4 [.app (.wrap .i64) [.v 11], .app (.wrap .i64) [.v 5], .lit (.bool true)] 3
    (.ret (.done [.v 12, .v 13, .v 14])))))))))))
  (.ret (.done [.lit (.int (0)), .lit (.int (0)), .lit (.bool false)]))))
theorem t123_eq : ((fnC (PV.fast Tryz.prog) G (([s24, s172, s173, s174, s169] : List Sx.Spec).map (·.con)) [] 300 c123 20).prune []).toTr = t123.expand (vars 2) := by kernel_rfl

def f123 (ds : List D) : List D := okI (Iv.sqrt (iat ds 0))
def s123 : Sx.Spec := { con := { c123 with fold := some f123 }, pre := fun ds => Iv.Vd (iat ds 0) ∧ 0 ≤ (iat ds 0).lo, fn := f123 }
theorem s123_ok : s123.Ok Tryz.prog G := lspec_ok [s24, s172, s173, s174, s169] (by simp only [List.mem_cons, List.not_mem_nil, or_false, forall_eq_or_imp, forall_eq]; exact ⟨s24_ok, s172_ok, s173_ok, s174_ok, s169_ok⟩) s123 300 20 (fun g hg ds _ => by simp only [s123, Option.some.injEq] at hg ⊢; rw [hg]) t123 2 t123_eq (by
  intro ds h
  obtain ⟨h1, h0⟩ := h
  have b1 : _ ∧ _ := iv_b (a := ds.getD 0 default) (b := ds.getD 1 default) h1
  have hle : (ds.getD 0 default).toInt ≤ (ds.getD 1 default).toInt := h1.1
  have h0' : 0 ≤ (ds.getD 0 default).toInt := h0
  have v1 : s24.fn [ds.getD 0 default, ds.getD 1 default] = [.bool true] := s24_iv h1
  have hg : s123.fn ds = okI (Iv.sqrt (iat ds 0)) := rfl
  rw [hg]
  generalize ha : (ds.getD 0 default).toInt = a at *
  generalize hb : (ds.getD 1 default).toInt = b at *
  have hA : Iv.sqrt (iat ds 0) = ⟨Iv.isq (a * 1099511627776).toNat, Iv.csq (b * 1099511627776).toNat⟩ := by rw [← ha, ← hb]; rfl
  have q1 := Iv.isq_spec (n := (a * 1099511627776).toNat) (by omega)
  have q2 := Iv.isq_spec (n := (b * 1099511627776).toNat) (by omega)
  have hc : Iv.csq (b * 1099511627776).toNat = if Iv.isq (b * 1099511627776).toNat * Iv.isq (b * 1099511627776).toNat < (b * 1099511627776).toNat then Iv.isq (b * 1099511627776).toNat + 1 else Iv.isq (b * 1099511627776).toNat := rfl
  have hm1 : s172.fn [.int (b % 18446744073709551616), .int 1099511627776] = [.int (b * 1099511627776 / 18446744073709551616), .int (b * 1099511627776 % 18446744073709551616)] := by
    rw [s172_val _ _ (by rw [D.toInt_int]; omega) (by rw [D.toInt_int]; omega) (by decide) (by decide), D.toInt_int, D.toInt_int, Int.emod_eq_of_lt (by omega) (by omega)]
  have hm2 : s172.fn [.int (a % 18446744073709551616), .int 1099511627776] = [.int (a * 1099511627776 / 18446744073709551616), .int (a * 1099511627776 % 18446744073709551616)] := by
    rw [s172_val _ _ (by rw [D.toInt_int]; omega) (by rw [D.toInt_int]; omega) (by decide) (by decide), D.toInt_int, D.toInt_int, Int.emod_eq_of_lt (by omega) (by omega)]
  have hs1 := s173_val (x := b * 1099511627776) (by omega) (by omega)
  have hs2 := s173_val (x := a * 1099511627776) (by omega) (by omega)
  have e5 := s169_ok2 (Iv.sqrt (iat ds 0))
  rw [hA, hc] at e5
  rw [hA, hc]
  generalize hi : Iv.isq (b * 1099511627776).toNat = i at *
  generalize hj : Iv.isq (a * 1099511627776).toNat = j at *
  have i1 : i < 4398046511104 + 1 := by
    rcases Nat.lt_or_ge i (4398046511104 + 1) with h | h
    · exact h
    · have := Nat.mul_le_mul h h; omega
  have j1 : j < 4398046511104 + 1 := by
    rcases Nat.lt_or_ge j (4398046511104 + 1) with h | h
    · exact h
    · have := Nat.mul_le_mul h h; omega
  have hm3 : s172.fn [.int (i : Int), .int (i : Int)] = [.int ((i : Int) * i / 18446744073709551616), .int ((i : Int) * i % 18446744073709551616)] := by
    rw [s172_val _ _ (by rw [D.toInt_int]; omega) (by rw [D.toInt_int]; omega) (by rw [D.toInt_int]; omega) (by rw [D.toInt_int]; omega), D.toInt_int]
  have hq : (((i * i : Nat) : Nat) : Int) = (i : Int) * i := Int.natCast_mul i i
  have hcm := s174_at (x := (i : Int) * i) (y := b * 1099511627776) (by omega) (by omega)
  by_cases cb : i * i < (b * 1099511627776).toNat
  · rw [if_pos cb] at e5 ⊢
    rw [if_pos (by omega)] at hcm
    simp only [t123, Nat.reduceAdd, Lt.holds, Lt.safe, Lt.run, Leaf.at, LeafV.Ok, envOf, resD, T.eval, T.evals, pe_ar, pe_wrap, pe_mn, pe_mx, pe_cm, pe_not, pe_beq, pe_ite, pe_len, pe_slen, pe_sat, pe_xt, pe_call, fnOf, preOf, cm_eq, cm_ne, cm_lt, cm_le, cm_gt, cm_ge, ar_add, ar_sub, ar_mul, ar_quo, ar_rem, ar_shl, ar_shr, wrap_u64, wrap_i64, wrap_u8, wrap_u16, List.getD_cons_zero, List.getD_cons_succ, List.cons_append, List.nil_append, D.toInt_int, D.toBool_bool, decide_eq_true_eq, decide_eq_false_iff_not, Bool.not_eq_true, Bool.not_eq_false, ha, hb, p24, p172, p174, p169, v1, hm1, hm2, hm3, hs1, hs2, hcm, true_and, true_implies, Bool.true_eq_false, Bool.false_eq_true, false_implies, and_true]
    refine ⟨fun h => absurd h0' (by omega), fun _ => ⟨(show _ ∧ _ from ⟨⟨by simp only [D.toInt_int, List.getD_cons_zero]; omega, by simp only [D.toInt_int, List.getD_cons_zero]; omega⟩, by simp only [D.toInt_int, List.getD_cons_succ, List.getD_cons_zero]; omega, by simp only [D.toInt_int, List.getD_cons_succ, List.getD_cons_zero]; omega⟩), fun _ => ⟨(show _ ∧ _ from ⟨⟨by simp only [D.toInt_int, List.getD_cons_zero]; omega, by simp only [D.toInt_int, List.getD_cons_zero]; omega⟩, by simp only [D.toInt_int, List.getD_cons_succ, List.getD_cons_zero]; omega, by simp only [D.toInt_int, List.getD_cons_succ, List.getD_cons_zero]; omega⟩), ?_⟩, fun h => absurd h (by omega)⟩⟩
    rw [show ((j : Int) + 9223372036854775808) % 18446744073709551616 - 9223372036854775808 = j from by omega, show (((i : Int) + 1) % 18446744073709551616 + 9223372036854775808) % 18446744073709551616 - 9223372036854775808 = ((i + 1 : Nat) : Int) from by omega, e5, okI_3]
    exact AgreeS.refl _ _
  · rw [if_neg cb] at e5 ⊢
    rw [if_neg (by omega)] at hcm
    simp only [t123, Nat.reduceAdd, Lt.holds, Lt.safe, Lt.run, Leaf.at, LeafV.Ok, envOf, resD, T.eval, T.evals, pe_ar, pe_wrap, pe_mn, pe_mx, pe_cm, pe_not, pe_beq, pe_ite, pe_len, pe_slen, pe_sat, pe_xt, pe_call, fnOf, preOf, cm_eq, cm_ne, cm_lt, cm_le, cm_gt, cm_ge, ar_add, ar_sub, ar_mul, ar_quo, ar_rem, ar_shl, ar_shr, wrap_u64, wrap_i64, wrap_u8, wrap_u16, List.getD_cons_zero, List.getD_cons_succ, List.cons_append, List.nil_append, D.toInt_int, D.toBool_bool, decide_eq_true_eq, decide_eq_false_iff_not, Bool.not_eq_true, Bool.not_eq_false, ha, hb, p24, p172, p174, p169, v1, hm1, hm2, hm3, hs1, hs2, hcm, true_and, true_implies, Bool.true_eq_false, Bool.false_eq_true, false_implies, and_true]
    refine ⟨fun h => absurd h0' (by omega), fun _ => ⟨(show _ ∧ _ from ⟨⟨by simp only [D.toInt_int, List.getD_cons_zero]; omega, by simp only [D.toInt_int, List.getD_cons_zero]; omega⟩, by simp only [D.toInt_int, List.getD_cons_succ, List.getD_cons_zero]; omega, by simp only [D.toInt_int, List.getD_cons_succ, List.getD_cons_zero]; omega⟩), fun h => absurd h (by split <;> omega), fun _ => ⟨(show _ ∧ _ from ⟨⟨by simp only [D.toInt_int, List.getD_cons_zero]; omega, by simp only [D.toInt_int, List.getD_cons_zero]; omega⟩, by simp only [D.toInt_int, List.getD_cons_succ, List.getD_cons_zero]; omega, by simp only [D.toInt_int, List.getD_cons_succ, List.getD_cons_zero]; omega⟩), ?_⟩⟩⟩
    rw [show ((j : Int) + 9223372036854775808) % 18446744073709551616 - 9223372036854775808 = j from by omega, show ((i : Int) + 9223372036854775808) % 18446744073709551616 - 9223372036854775808 = (i : Int) from by omega, e5, okI_3]
    exact AgreeS.refl _ _)
theorem s123_fn (a b : D) : s123.fn [a, b] = okI (Iv.sqrt (iv a b)) := rfl
theorem s123_pre (a b : D) : s123.pre [a, b] = (Iv.Vd (iv a b) ∧ 0 ≤ (iv a b).lo) := rfl
end Go.Proofs.YteaiikmijhikpaaGreatDoor
end
section
namespace Go.Proofs.YteaiikmijhikpaaGreatDoor
open Go Go.Sx Bz
set_option maxRecDepth 100000

theorem iv_lit13 : iv (.int 1099511627776) (.int 3298534883328) = ⟨1099511627776, 3298534883328⟩ := rfl
theorem s27_val (a b l h : D) : s27.fn [a, b, l, h] = [.int (Iv.limit (iv a b) l.toInt h.toInt).lo, .int (Iv.limit (iv a b) l.toInt h.toInt).hi] := by
  have e : s27.fn [a, b, l, h] = t27.run (fnOf []) [a, b, l, h] := rfl
  rw [e]
  simp only [t27, Tr.run, Leaf.at, T.eval, T.evals, pe_mn, pe_mx, List.getD_cons_zero, List.getD_cons_succ, D.toInt_int, Iv.limit, iv]
theorem s71_val {X : Iv.I} (h : Iv.Vd X) : s71.fn [.int X.lo, .int X.hi] = [.int (Iv.absolute X).lo, .int (Iv.absolute X).hi] := by
  have e : s71.fn [.int X.lo, .int X.hi] = t71.run (fnOf []) [.int X.lo, .int X.hi] := rfl
  have hb : X.lo ≤ X.hi ∧ -17592186044416 ≤ X.lo ∧ X.hi ≤ 17592186044416 := h
  rw [e]
  simp only [t71, Tr.run, Leaf.at, T.eval, T.evals, pe_ar, pe_mn, pe_mx, cm_ge, cm_le, pe_cm, ar_sub, wrap_i64, List.getD_cons_zero, List.getD_cons_succ, D.toInt_int, D.toBool_bool]
  have e1 : (0 - X.hi + 9223372036854775808) % 18446744073709551616 - 9223372036854775808 = -X.hi := by omega
  have e2 : (0 - X.lo + 9223372036854775808) % 18446744073709551616 - 9223372036854775808 = -X.lo := by omega
  rw [e1, e2]
  unfold Iv.absolute
  by_cases c1 : 0 ≤ X.lo
  · rw [if_pos c1, decide_eq_true c1]
  · rw [if_neg c1, decide_eq_false c1]
    by_cases c2 : X.hi ≤ 0
    · rw [if_pos c2, decide_eq_true c2]
    · rw [if_neg c2, decide_eq_false c2]
theorem fact_mul {a b c d : D} (h1 : Iv.Vd (iv a b)) (h2 : Iv.Vd (iv c d)) (h3 : Iv.Vd (Iv.mul (iv a b) (iv c d))) : s73.fn [a, b, c, d] = [.int (Iv.mul (iv a b) (iv c d)).lo, .int (Iv.mul (iv a b) (iv c d)).hi, .bool true] := (s73_fn _ _ _ _).trans (okI_yes h3)
/-- compositor/real.mul -/
def c29 : Con := { f := 29, ps := [.agg [.int .i64, .int .i64], .agg [.int .i64, .int .i64]], rs := [.agg [.int .i64, .int .i64]] }
def t29 : Lt :=
 (.call 0 [.v 0, .v 1, .v 2, .v 3] 3
 (.ret (.done [.v 4, .v 5])))
theorem t29_eq : ((fnC (PV.fast Tryz.prog) G (([s73] : List Sx.Spec).map (·.con)) [] 300 c29 20).prune []).toTr = t29.expand (vars 4) := by kernel_rfl

def f29 (ds : List D) : List D := enc (Iv.mul (iat ds 0) (iat ds 2))
def s29 : Sx.Spec := { con := { c29 with fold := some f29 }, pre := fun ds => (Iv.Vd (iat ds 0) ∧ Iv.Vd (iat ds 2)) ∧ Iv.Vd (Iv.mul (iat ds 0) (iat ds 2)), fn := f29 }
theorem s29_ok : s29.Ok Tryz.prog G := lspec_ok [s73] (by simp only [List.mem_cons, List.not_mem_nil, or_false, forall_eq_or_imp, forall_eq]; exact s73_ok) s29 300 20 (fun g hg ds _ => by simp only [s29, Option.some.injEq] at hg ⊢; rw [hg]) t29 4 t29_eq (by
  intro ds h
  obtain ⟨⟨h1, h2⟩, h3⟩ := h
  have e1 : s73.fn [ds.getD 0 default, ds.getD 1 default, ds.getD 2 default, ds.getD 3 default] = [.int (Iv.mul (iat ds 0) (iat ds 2)).lo, .int (Iv.mul (iat ds 0) (iat ds 2)).hi, .bool true] := (s73_fn _ _ _ _).trans (okI_yes h3)
  simp only [t29, Nat.reduceAdd, Lt.holds, Lt.safe, Lt.run, Leaf.at, LeafV.Ok, envOf, resD, T.eval, T.evals, pe_ar, pe_wrap, pe_mn, pe_mx, pe_cm, pe_not, pe_beq, pe_ite, pe_len, pe_slen, pe_sat, pe_xt, pe_call, fnOf, preOf, cm_eq, cm_ne, cm_lt, cm_le, cm_gt, cm_ge, ar_add, ar_sub, ar_mul, ar_quo, ar_rem, ar_shl, ar_shr, wrap_u64, wrap_i64, wrap_u8, wrap_u16, List.getD_cons_zero, List.getD_cons_succ, List.cons_append, List.nil_append, D.toInt_int, D.toBool_bool, decide_eq_true_eq, decide_eq_false_iff_not, Bool.not_eq_true, Bool.not_eq_false, s73_pre, e1]
  exact ⟨⟨h1, h2⟩, AgreeS.refl _ _⟩)
theorem s29_fn (a b c d : D) : s29.fn [a, b, c, d] = [.int (Iv.mul (iv a b) (iv c d)).lo, .int (Iv.mul (iv a b) (iv c d)).hi] := rfl
theorem s29_pre (a b c d : D) : s29.pre [a, b, c, d] = ((Iv.Vd (iv a b) ∧ Iv.Vd (iv c d)) ∧ Iv.Vd (Iv.mul (iv a b) (iv c d))) := rfl
/-- compositor/real.twice -/
def c72 : Con := { f := 72, ps := [.agg [.int .i64, .int .i64]], rs := [.agg [.int .i64, .int .i64]] }
def t72 : Lt :=
 (.call 0 [.v 0, .v 1, .v 0, .v 1] 2
 (.ret (.done [.v 2, .v 3])))
theorem t72_eq : ((fnC (PV.fast Tryz.prog) G (([s61] : List Sx.Spec).map (·.con)) [] 300 c72 20).prune []).toTr = t72.expand (vars 2) := by kernel_rfl

def f72 (ds : List D) : List D := enc (Iv.twice (iat ds 0))
def s72 : Sx.Spec := { con := { c72 with fold := some f72 }, pre := fun ds => Iv.Vd (iat ds 0) ∧ Iv.Vd (Iv.twice (iat ds 0)), fn := f72 }
theorem s72_ok : s72.Ok Tryz.prog G := lspec_ok [s61] (by simp only [List.mem_cons, List.not_mem_nil, or_false, forall_eq_or_imp, forall_eq]; exact s61_ok) s72 300 20 (fun g hg ds _ => by simp only [s72, Option.some.injEq] at hg ⊢; rw [hg]) t72 2 t72_eq (by
  intro ds h
  obtain ⟨h1, h3⟩ := h
  have e1 : s61.fn [ds.getD 0 default, ds.getD 1 default, ds.getD 0 default, ds.getD 1 default] = [.int (Iv.twice (iat ds 0)).lo, .int (Iv.twice (iat ds 0)).hi] := s61_fn _ _ _ _
  simp only [t72, Nat.reduceAdd, Lt.holds, Lt.safe, Lt.run, Leaf.at, LeafV.Ok, envOf, resD, T.eval, T.evals, pe_ar, pe_wrap, pe_mn, pe_mx, pe_cm, pe_not, pe_beq, pe_ite, pe_len, pe_slen, pe_sat, pe_xt, pe_call, fnOf, preOf, cm_eq, cm_ne, cm_lt, cm_le, cm_gt, cm_ge, ar_add, ar_sub, ar_mul, ar_quo, ar_rem, ar_shl, ar_shr, wrap_u64, wrap_i64, wrap_u8, wrap_u16, List.getD_cons_zero, List.getD_cons_succ, List.cons_append, List.nil_append, D.toInt_int, D.toBool_bool, decide_eq_true_eq, decide_eq_false_iff_not, Bool.not_eq_true, Bool.not_eq_false, s61_pre, e1]
  exact ⟨⟨⟨h1, h1⟩, h3⟩, AgreeS.refl _ _⟩)
theorem s72_fn (a b : D) : s72.fn [a, b] = [.int (Iv.twice (iv a b)).lo, .int (Iv.twice (iv a b)).hi] := rfl
theorem s72_pre (a b : D) : s72.pre [a, b] = (Iv.Vd (iv a b) ∧ Iv.Vd (Iv.twice (iv a b))) := rfl
/-- compositor/real.part -/
def c120 : Con := { f := 120, ps := [.agg [.int .i64, .int .i64], .agg [.int .i64, .int .i64], .agg [.int .i64, .int .i64]], rs := [.agg [.int .i64, .int .i64]] }
def t120 : Lt :=
 (.call 0 [.v 0, .v 1, .v 2, .v 3] 2
 (.call 1 [.v 6, .v 7, .v 4, .v 5] 3
 (.ask (.v 10)
  (.call 2 [.v 8, .v 9, .lit (.int (0)), .app .mn [.v 1, .v 3]] 2
  (.ret (.done [.v 11, .v 12])))
  (.ret (.done [.lit (.int (0)), .app .mn [.v 1, .v 3]])))))
theorem t120_eq : ((fnC (PV.fast Tryz.prog) G (([s29, s171, s27] : List Sx.Spec).map (·.con)) [] 300 c120 20).prune []).toTr = t120.expand (vars 6) := by kernel_rfl

def f120 (ds : List D) : List D := enc (Iv.part (iat ds 0) (iat ds 2) (iat ds 4))
def s120 : Sx.Spec := { con := { c120 with fold := some f120 }, pre := fun ds => ((Iv.Vd (iat ds 0) ∧ Iv.Vd (iat ds 2)) ∧ Iv.Vd (Iv.mul (iat ds 0) (iat ds 2))) ∧ Iv.Vd (iat ds 4), fn := f120 }
theorem s120_ok : s120.Ok Tryz.prog G := lspec_ok [s29, s171, s27] (by simp only [List.mem_cons, List.not_mem_nil, or_false, forall_eq_or_imp, forall_eq]; exact ⟨s29_ok, s171_ok, s27_ok⟩) s120 300 20 (fun g hg ds _ => by simp only [s120, Option.some.injEq] at hg ⊢; rw [hg]) t120 6 t120_eq (by
  intro ds h
  obtain ⟨h1, h2⟩ := h
  have m1 : (iat ds 0).hi = (ds.getD 1 default).toInt := rfl
  have m2 : (iat ds 2).hi = (ds.getD 3 default).toInt := rfl
  have e1 : s171.fn [.int (Iv.mul (iat ds 0) (iat ds 2)).lo, .int (Iv.mul (iat ds 0) (iat ds 2)).hi, ds.getD 4 default, ds.getD 5 default] = if 0 < (iat ds 4).lo then okI (Iv.div (Iv.mul (iat ds 0) (iat ds 2)) (iat ds 4)) else [.int 0, .int 0, .bool false] := s171_fn _ _ _ _
  have hg : s120.fn ds = enc (if 0 < (iat ds 4).lo ∧ Iv.Vd (Iv.div (Iv.mul (iat ds 0) (iat ds 2)) (iat ds 4)) then Iv.limit (Iv.div (Iv.mul (iat ds 0) (iat ds 2)) (iat ds 4)) 0 (min (ds.getD 1 default).toInt (ds.getD 3 default).toInt) else ⟨0, min (ds.getD 1 default).toInt (ds.getD 3 default).toInt⟩) := rfl
  rw [hg]
  by_cases c : 0 < (iat ds 4).lo ∧ Iv.Vd (Iv.div (Iv.mul (iat ds 0) (iat ds 2)) (iat ds 4))
  · rw [if_pos c]
    rw [if_pos c.1, okI_yes c.2] at e1
    simp only [t120, Nat.reduceAdd, Lt.holds, Lt.safe, Lt.run, Leaf.at, LeafV.Ok, envOf, resD, T.eval, T.evals, pe_ar, pe_wrap, pe_mn, pe_mx, pe_cm, pe_not, pe_beq, pe_ite, pe_len, pe_slen, pe_sat, pe_xt, pe_call, fnOf, preOf, cm_eq, cm_ne, cm_lt, cm_le, cm_gt, cm_ge, ar_add, ar_sub, ar_mul, ar_quo, ar_rem, ar_shl, ar_shr, wrap_u64, wrap_i64, wrap_u8, wrap_u16, List.getD_cons_zero, List.getD_cons_succ, List.cons_append, List.nil_append, D.toInt_int, D.toBool_bool, decide_eq_true_eq, decide_eq_false_iff_not, Bool.not_eq_true, Bool.not_eq_false, s29_fn, s29_pre, s61_fn, s61_pre, s62_fn, s62_pre, s72_fn, s72_pre, s27_val, p27, iv_en, iat0, iat2, iat4, iat6, iat8, iat10, s171_pre, e1, h1, h2, true_and, true_implies, Bool.true_eq_false, Bool.false_eq_true, false_implies, and_true, and_self]
    exact AgreeS.refl _ _
  · rw [if_neg c]
    have e2 : s171.fn [.int (Iv.mul (iat ds 0) (iat ds 2)).lo, .int (Iv.mul (iat ds 0) (iat ds 2)).hi, ds.getD 4 default, ds.getD 5 default] = [.int 0, .int 0, .bool false] := by
      rw [e1]
      by_cases c1 : 0 < (iat ds 4).lo
      · rw [if_pos c1, okI_no (fun h => c ⟨c1, h⟩)]
      · rw [if_neg c1]
    simp only [t120, Nat.reduceAdd, Lt.holds, Lt.safe, Lt.run, Leaf.at, LeafV.Ok, envOf, resD, T.eval, T.evals, pe_ar, pe_wrap, pe_mn, pe_mx, pe_cm, pe_not, pe_beq, pe_ite, pe_len, pe_slen, pe_sat, pe_xt, pe_call, fnOf, preOf, cm_eq, cm_ne, cm_lt, cm_le, cm_gt, cm_ge, ar_add, ar_sub, ar_mul, ar_quo, ar_rem, ar_shl, ar_shr, wrap_u64, wrap_i64, wrap_u8, wrap_u16, List.getD_cons_zero, List.getD_cons_succ, List.cons_append, List.nil_append, D.toInt_int, D.toBool_bool, decide_eq_true_eq, decide_eq_false_iff_not, Bool.not_eq_true, Bool.not_eq_false, s29_fn, s29_pre, s61_fn, s61_pre, s62_fn, s62_pre, s72_fn, s72_pre, s27_val, p27, iv_en, iat0, iat2, iat4, iat6, iat8, iat10, s171_pre, e2, h1, h2, true_and, true_implies, Bool.true_eq_false, Bool.false_eq_true, false_implies, and_true, and_self]
    exact AgreeS.refl _ _)
theorem s120_fn (a b c d e f : D) : s120.fn [a, b, c, d, e, f] = [.int (Iv.part (iv a b) (iv c d) (iv e f)).lo, .int (Iv.part (iv a b) (iv c d) (iv e f)).hi] := rfl
theorem s120_pre (a b c d e f : D) : s120.pre [a, b, c, d, e, f] = (((Iv.Vd (iv a b) ∧ Iv.Vd (iv c d)) ∧ Iv.Vd (Iv.mul (iv a b) (iv c d))) ∧ Iv.Vd (iv e f)) := rfl
/-- compositor/real.dark -/
def c68 : Con := { f := 68, ps := [.agg [.int .i64, .int .i64], .agg [.int .i64, .int .i64], .agg [.int .i64, .int .i64], .agg [.int .i64, .int .i64]], rs := [.agg [.int .i64, .int .i64]] }
def t68 : Lt :=
 (.call 1 [.v 6, .v 7, .v 4, .v 5] 2
 (.call 0 [.v 8, .v 9, .lit (.int (0)), .lit (.int (1099511627776))] 2
 (.call 2 [.v 4, .v 5, .v 2, .v 3] 2
 (.call 3 [.v 0, .v 1] 2
 (.call 1 [.v 2, .v 3, .v 14, .v 15] 2
 (.call 0 [.v 16, .v 17, .lit (.int (0)), .lit (.int (1099511627776))] 2
 (.call 4 [.v 4, .v 5, .v 10, .v 11, .v 6, .v 7] 2
 (.call 2 [.v 18, .v 19, .v 20, .v 21] 2
 (.call 1 [.v 12, .v 13, .v 22, .v 23] 2
 (.ret (.done [.v 24, .v 25])))))))))))
theorem t68_eq : ((fnC (PV.fast Tryz.prog) G (([s27, s62, s29, s72, s120] : List Sx.Spec).map (·.con)) [] 300 c68 20).prune []).toTr = t68.expand (vars 8) := by kernel_rfl

def f68 (ds : List D) : List D := enc (Iv.dark (iat ds 0) (iat ds 2) (iat ds 4) (iat ds 6))
def s68 : Sx.Spec := { con := { c68 with fold := some f68 }, pre := fun ds => Iv.In01 (iat ds 0) ∧ Iv.In01 (iat ds 2) ∧ Iv.In01 (iat ds 4) ∧ Iv.In01 (iat ds 6), fn := f68 }
theorem s68_ok : s68.Ok Tryz.prog G := lspec_ok [s27, s62, s29, s72, s120] (by simp only [List.mem_cons, List.not_mem_nil, or_false, forall_eq_or_imp, forall_eq]; exact ⟨s27_ok, s62_ok, s29_ok, s72_ok, s120_ok⟩) s68 300 20 (fun g hg ds _ => by simp only [s68, Option.some.injEq] at hg ⊢; rw [hg]) t68 8 t68_eq (by
  intro ds h
  obtain ⟨hS, hA, hD, hB⟩ := h
  have bS := hS.bd
  have bA := hA.bd
  have bD := hD.bd
  have bB := hB.bd
  have vS := bS.vd (by decide)
  have vA := bA.vd (by decide)
  have vD := bD.vd (by decide)
  have vB := bB.vd (by decide)
  have b1 : Iv.Bd (Iv.sub (iat ds 6) (iat ds 4)) 2 := Iv.bd_sub bB bD
  have v1 := b1.vd (by decide)
  have b2 : Iv.Bd (Iv.limit (Iv.sub (iat ds 6) (iat ds 4)) 0 1099511627776) 1 := Iv.bd_unit b1.2.1
  have v2 := b2.vd (by decide)
  have b3 : Iv.Bd (Iv.mul (iat ds 4) (iat ds 2)) 1 := Iv.bd_mul bD bA
  have v3 := b3.vd (by decide)
  have b4 : Iv.Bd (Iv.twice (iat ds 0)) 2 := Iv.bd_twice bS
  have v4 := b4.vd (by decide)
  have b5 : Iv.Bd (Iv.sub (iat ds 2) (Iv.twice (iat ds 0))) 3 := Iv.bd_sub bA b4
  have v5 := b5.vd (by decide)
  have b6 : Iv.Bd (Iv.limit (Iv.sub (iat ds 2) (Iv.twice (iat ds 0))) 0 1099511627776) 1 := Iv.bd_unit b5.2.1
  have v6 := b6.vd (by decide)
  have b7 : Iv.Bd (Iv.mul (iat ds 4) (Iv.limit (Iv.sub (iat ds 6) (iat ds 4)) 0 1099511627776)) 1 := Iv.bd_mul bD b2
  have v7 := b7.vd (by decide)
  have b8 : Iv.Bd (Iv.part (iat ds 4) (Iv.limit (Iv.sub (iat ds 6) (iat ds 4)) 0 1099511627776) (iat ds 6)) 1 := Iv.bd_part ⟨by have := hD; unfold Iv.In01 at this; omega, by have := hD; unfold Iv.In01 at this; omega⟩ ⟨by show 0 ≤ max _ _; omega, b2.2.2⟩
  have v8 := b8.vd (by decide)
  have b9 : Iv.Bd (Iv.mul (Iv.limit (Iv.sub (iat ds 2) (Iv.twice (iat ds 0))) 0 1099511627776) (Iv.part (iat ds 4) (Iv.limit (Iv.sub (iat ds 6) (iat ds 4)) 0 1099511627776) (iat ds 6))) 1 := Iv.bd_mul b6 b8
  have v9 := b9.vd (by decide)
  have b10 : Iv.Bd (Iv.sub (Iv.mul (iat ds 4) (iat ds 2)) (Iv.mul (Iv.limit (Iv.sub (iat ds 2) (Iv.twice (iat ds 0))) 0 1099511627776) (Iv.part (iat ds 4) (Iv.limit (Iv.sub (iat ds 6) (iat ds 4)) 0 1099511627776) (iat ds 6)))) 2 := Iv.bd_sub b3 b9
  have v10 := b10.vd (by decide)
  simp only [t68, Nat.reduceAdd, Lt.holds, Lt.safe, Lt.run, Leaf.at, LeafV.Ok, envOf, resD, T.eval, T.evals, pe_ar, pe_wrap, pe_mn, pe_mx, pe_cm, pe_not, pe_beq, pe_ite, pe_len, pe_slen, pe_sat, pe_xt, pe_call, fnOf, preOf, cm_eq, cm_ne, cm_lt, cm_le, cm_gt, cm_ge, ar_add, ar_sub, ar_mul, ar_quo, ar_rem, ar_shl, ar_shr, wrap_u64, wrap_i64, wrap_u8, wrap_u16, List.getD_cons_zero, List.getD_cons_succ, List.cons_append, List.nil_append, D.toInt_int, D.toBool_bool, decide_eq_true_eq, decide_eq_false_iff_not, Bool.not_eq_true, Bool.not_eq_false, s29_fn, s29_pre, s61_fn, s61_pre, s62_fn, s62_pre, s72_fn, s72_pre, s27_val, p27, iv_en, iat0, iat2, iat4, iat6, iat8, iat10, s120_fn, s120_pre, vS, vA, vD, vB, v1, v2, v3, v4, v5, v6, v7, v8, v9, v10, true_and, and_true, and_self]
  exact AgreeS.refl _ _)
theorem s68_fn (a b c d e f g h : D) : s68.fn [a, b, c, d, e, f, g, h] = [.int (Iv.dark (iv a b) (iv c d) (iv e f) (iv g h)).lo, .int (Iv.dark (iv a b) (iv c d) (iv e f) (iv g h)).hi] := rfl
theorem s68_pre (a b c d e f g h : D) : s68.pre [a, b, c, d, e, f, g, h] = (Iv.In01 (iv a b) ∧ Iv.In01 (iv c d) ∧ Iv.In01 (iv e f) ∧ Iv.In01 (iv g h)) := rfl
end Go.Proofs.YteaiikmijhikpaaGreatDoor
end
section
namespace Go.Proofs.YteaiikmijhikpaaGreatDoor
open Go Go.Sx Bz
set_option maxRecDepth 100000

theorem pw1 : (2 : Int) ^ min (Int.toNat 1) IntKind.i64.bits = 2 := rfl
theorem pw2 : (2 : Int) ^ min (Int.toNat 2) IntKind.i64.bits = 4 := rfl
theorem shl1 {x : Int} (h0 : -1099511627776 ≤ x) (h : x ≤ 1099511627776) (k : Int) (hk0 : 0 ≤ k) (hk : k ≤ 4) : (x * k + 9223372036854775808) % 18446744073709551616 - 9223372036854775808 = x * k := by
  have h1 := Iv.abs_mul_le h0 h (show -4 ≤ k by omega) hk
  omega
/-- compositor/real.bright -/
def c70 : Con := { f := 70, ps := [.agg [.int .i64, .int .i64], .agg [.int .i64, .int .i64], .agg [.int .i64, .int .i64], .agg [.int .i64, .int .i64]], rs := [.agg [.int .i64, .int .i64]] }
def t70 : Lt :=
 (.call 2 [.v 0, .v 1] 2
 (.call 1 [.v 8, .v 9, .v 2, .v 3] 2
 (.call 0 [.v 10, .v 11, .lit (.int (0)), .lit (.int (1099511627776))] 2
 (.ask (.app (.cm .le) [.app (.ar .shl .i64) [.v 4, .lit (.int (2))], .v 7])
  (.ask (.app (.cm .gt) [.app (.ar .shl .i64) [.v 5, .lit (.int (2))], .v 6])
   (.call 3 [.v 4, .v 5, .v 2, .v 3] 2
   (.call 3 [.v 4, .v 5, .lit (.int (1099511627776)), .lit (.int (3298534883328))] 2
   (.call 3 [.v 12, .v 13, .v 16, .v 17] 2
   (.call 4 [.v 14, .v 15, .v 18, .v 19] 2
   (.call 3 [.v 4, .v 5, .v 6, .v 7] 2
   (.call 0 [.v 22, .v 23, .lit (.int (0)), .lit (.int (1099511627776))] 2
   (.call 5 [.v 24, .v 25] 3
   (.call 3 [.v 4, .v 5, .v 2, .v 3] 0
   (.call 1 [.v 26, .v 27, .v 4, .v 5] 2
   (.call 3 [.v 12, .v 13, .v 29, .v 30] 2
   (.call 4 [.v 14, .v 15, .v 31, .v 32] 2
   (.call 6 [.v 20, .v 21, .v 33, .v 34] 2
   (.ret (.done [.v 35, .v 36]))))))))))))))
   (.call 3 [.v 4, .v 5, .v 2, .v 3] 2
   (.call 3 [.v 4, .v 5, .lit (.int (1099511627776)), .lit (.int (3298534883328))] 2
   (.call 3 [.v 12, .v 13, .v 16, .v 17] 2
   (.call 4 [.v 14, .v 15, .v 18, .v 19] 2
   (.ret (.done [.v 20, .v 21])))))))
  (.call 3 [.v 4, .v 5, .v 6, .v 7] 2
  (.call 0 [.v 14, .v 15, .lit (.int (0)), .lit (.int (1099511627776))] 2
  (.call 5 [.v 16, .v 17] 3
  (.call 3 [.v 4, .v 5, .v 2, .v 3] 2
  (.call 1 [.v 18, .v 19, .v 4, .v 5] 2
  (.call 3 [.v 12, .v 13, .v 23, .v 24] 2
  (.call 4 [.v 21, .v 22, .v 25, .v 26] 2
  (.ret (.done [.v 27, .v 28])))))))))))))
theorem t70_eq : ((fnC (PV.fast Tryz.prog) G (([s27, s62, s72, s29, s61, s123, s119] : List Sx.Spec).map (·.con)) [] 300 c70 20).prune []).toTr = t70.expand (vars 8) := by kernel_rfl

def f70 (ds : List D) : List D := enc (Iv.bright (iat ds 0) (iat ds 2) (iat ds 4) (iat ds 6))
def s70 : Sx.Spec := { con := { c70 with fold := some f70 }, pre := fun ds => Iv.In01 (iat ds 0) ∧ Iv.In01 (iat ds 2) ∧ Iv.In01 (iat ds 4) ∧ Iv.In01 (iat ds 6), fn := f70 }
set_option maxHeartbeats 2000000 in
theorem s70_ok : s70.Ok Tryz.prog G := lspec_ok [s27, s62, s72, s29, s61, s123, s119] (by simp only [List.mem_cons, List.not_mem_nil, or_false, forall_eq_or_imp, forall_eq]; exact ⟨s27_ok, s62_ok, s72_ok, s29_ok, s61_ok, s123_ok, s119_ok⟩) s70 300 20 (fun g hg ds _ => by simp only [s70, Option.some.injEq] at hg ⊢; rw [hg]) t70 8 t70_eq (by
  intro ds h
  obtain ⟨hS, hA, hD, hB⟩ := h
  have bS := hS.bd
  have bA := hA.bd
  have bD := hD.bd
  have bB := hB.bd
  have vS := bS.vd (by decide)
  have vA := bA.vd (by decide)
  have vD := bD.vd (by decide)
  have vB := bB.vd (by decide)
  have b1 : Iv.Bd (Iv.twice (iat ds 0)) 2 := Iv.bd_twice bS
  have v1 := b1.vd (by decide)
  have b2 : Iv.Bd (Iv.sub (Iv.twice (iat ds 0)) (iat ds 2)) 3 := Iv.bd_sub b1 bA
  have v2 := b2.vd (by decide)
  have b3 : Iv.Bd (Iv.limit (Iv.sub (Iv.twice (iat ds 0)) (iat ds 2)) 0 1099511627776) 1 := Iv.bd_unit b2.2.1
  have v3 := b3.vd (by decide)
  have b4 : Iv.Bd (Iv.mul (iat ds 4) (iat ds 2)) 1 := Iv.bd_mul bD bA
  have v4 := b4.vd (by decide)
  have b5 : Iv.Bd (⟨1099511627776, 3298534883328⟩) 3 := ⟨by decide, by decide, by decide⟩
  have v5 := b5.vd (by decide)
  have b6 : Iv.Bd (Iv.mul (iat ds 4) ⟨1099511627776, 3298534883328⟩) 3 := Iv.bd_mul bD b5
  have v6 := b6.vd (by decide)
  have b7 : Iv.Bd (Iv.mul (Iv.limit (Iv.sub (Iv.twice (iat ds 0)) (iat ds 2)) 0 1099511627776) (Iv.mul (iat ds 4) ⟨1099511627776, 3298534883328⟩)) 3 := Iv.bd_mul b3 b6
  have v7 := b7.vd (by decide)
  have b8 : Iv.Bd (Iv.add (Iv.mul (iat ds 4) (iat ds 2)) (Iv.mul (Iv.limit (Iv.sub (Iv.twice (iat ds 0)) (iat ds 2)) 0 1099511627776) (Iv.mul (iat ds 4) ⟨1099511627776, 3298534883328⟩))) 4 := Iv.bd_add b4 b7
  have v8 := b8.vd (by decide)
  have b9 : Iv.Bd (Iv.mul (iat ds 4) (iat ds 6)) 1 := Iv.bd_mul bD bB
  have v9 := b9.vd (by decide)
  have b10 : Iv.Bd (Iv.limit (Iv.mul (iat ds 4) (iat ds 6)) 0 1099511627776) 1 := Iv.bd_unit b9.2.1
  have v10 := b10.vd (by decide)
  have b11 : Iv.Bd (Iv.sqrt (Iv.limit (Iv.mul (iat ds 4) (iat ds 6)) 0 1099511627776)) 1 := Iv.bd_sqrt ⟨by show 0 ≤ min (max _ 0) 1099511627776; omega, b10.2.1, b10.2.2⟩
  have v11 := b11.vd (by decide)
  have b12 : Iv.Bd (Iv.sub (Iv.sqrt (Iv.limit (Iv.mul (iat ds 4) (iat ds 6)) 0 1099511627776)) (iat ds 4)) 2 := Iv.bd_sub b11 bD
  have v12 := b12.vd (by decide)
  have b13 : Iv.Bd (Iv.mul (Iv.limit (Iv.sub (Iv.twice (iat ds 0)) (iat ds 2)) 0 1099511627776) (Iv.sub (Iv.sqrt (Iv.limit (Iv.mul (iat ds 4) (iat ds 6)) 0 1099511627776)) (iat ds 4))) 2 := Iv.bd_mul b3 b12
  have v13 := b13.vd (by decide)
  have b14 : Iv.Bd (Iv.add (Iv.mul (iat ds 4) (iat ds 2)) (Iv.mul (Iv.limit (Iv.sub (Iv.twice (iat ds 0)) (iat ds 2)) 0 1099511627776) (Iv.sub (Iv.sqrt (Iv.limit (Iv.mul (iat ds 4) (iat ds 6)) 0 1099511627776)) (iat ds 4)))) 4 := (Iv.bd_add b4 b13).up (by decide)
  have v14 := b14.vd (by decide)
  have b15 : Iv.Bd (Iv.hull (Iv.add (Iv.mul (iat ds 4) (iat ds 2)) (Iv.mul (Iv.limit (Iv.sub (Iv.twice (iat ds 0)) (iat ds 2)) 0 1099511627776) (Iv.mul (iat ds 4) ⟨1099511627776, 3298534883328⟩))) (Iv.add (Iv.mul (iat ds 4) (iat ds 2)) (Iv.mul (Iv.limit (Iv.sub (Iv.twice (iat ds 0)) (iat ds 2)) 0 1099511627776) (Iv.sub (Iv.sqrt (Iv.limit (Iv.mul (iat ds 4) (iat ds 6)) 0 1099511627776)) (iat ds 4))))) 4 := Iv.bd_hull b8 b14
  have v15 := b15.vd (by decide)
  have h0 : (0 : Int) ≤ (Iv.limit (Iv.mul (iat ds 4) (iat ds 6)) 0 1099511627776).lo := by show (0 : Int) ≤ min (max _ 0) 1099511627776; omega
  have e9 : okI (Iv.sqrt (Iv.limit (Iv.mul (iat ds 4) (iat ds 6)) 0 1099511627776)) = [.int (Iv.sqrt (Iv.limit (Iv.mul (iat ds 4) (iat ds 6)) 0 1099511627776)).lo, .int (Iv.sqrt (Iv.limit (Iv.mul (iat ds 4) (iat ds 6)) 0 1099511627776)).hi, .bool true] := okI_yes v11
  have w1 : ((ds.getD 4 default).toInt * 4 + 9223372036854775808) % 18446744073709551616 - 9223372036854775808 = (ds.getD 4 default).toInt * 4 := by
    have h1 : _ ≤ (ds.getD 4 default).toInt := bD.1
    have h2 : (ds.getD 4 default).toInt ≤ (ds.getD 5 default).toInt := bD.2.1
    have h3 : (ds.getD 5 default).toInt ≤ _ := bD.2.2
    omega
  have w2 : ((ds.getD 5 default).toInt * 4 + 9223372036854775808) % 18446744073709551616 - 9223372036854775808 = (ds.getD 5 default).toInt * 4 := by
    have h1 : _ ≤ (ds.getD 4 default).toInt := bD.1
    have h2 : (ds.getD 4 default).toInt ≤ (ds.getD 5 default).toInt := bD.2.1
    have h3 : (ds.getD 5 default).toInt ≤ _ := bD.2.2
    omega
  simp only [t70, Nat.reduceAdd, Lt.holds, Lt.safe, Lt.run, Leaf.at, LeafV.Ok, envOf, resD, T.eval, T.evals, pe_ar, pe_wrap, pe_mn, pe_mx, pe_cm, pe_not, pe_beq, pe_ite, pe_len, pe_slen, pe_sat, pe_xt, pe_call, fnOf, preOf, cm_eq, cm_ne, cm_lt, cm_le, cm_gt, cm_ge, ar_add, ar_sub, ar_mul, ar_quo, ar_rem, ar_shl, ar_shr, wrap_u64, wrap_i64, wrap_u8, wrap_u16, List.getD_cons_zero, List.getD_cons_succ, List.cons_append, List.nil_append, D.toInt_int, D.toBool_bool, decide_eq_true_eq, decide_eq_false_iff_not, Bool.not_eq_true, Bool.not_eq_false, s29_fn, s29_pre, s61_fn, s61_pre, s62_fn, s62_pre, s72_fn, s72_pre, s27_val, p27, iv_en, iat0, iat2, iat4, iat6, iat8, iat10, s119_fn, s119_pre, s120_fn, s120_pre, s123_fn, s123_pre, iv_lit13, pw2, w1, w2, e9, h0, vS, vA, vD, vB, v1, v2, v3, v4, v5, v6, v7, v8, v9, v10, v11, v12, v13, v14, v15, true_and, and_true, and_self, true_implies]
  have hg : s70.fn ds = enc (if (ds.getD 4 default).toInt * 4 ≤ (ds.getD 7 default).toInt then (if (ds.getD 6 default).toInt < (ds.getD 5 default).toInt * 4 then Iv.hull (Iv.add (Iv.mul (iat ds 4) (iat ds 2)) (Iv.mul (Iv.limit (Iv.sub (Iv.twice (iat ds 0)) (iat ds 2)) 0 1099511627776) (Iv.mul (iat ds 4) ⟨1099511627776, 3298534883328⟩))) (Iv.add (Iv.mul (iat ds 4) (iat ds 2)) (Iv.mul (Iv.limit (Iv.sub (Iv.twice (iat ds 0)) (iat ds 2)) 0 1099511627776) (Iv.sub (Iv.sqrt (Iv.limit (Iv.mul (iat ds 4) (iat ds 6)) 0 1099511627776)) (iat ds 4)))) else Iv.add (Iv.mul (iat ds 4) (iat ds 2)) (Iv.mul (Iv.limit (Iv.sub (Iv.twice (iat ds 0)) (iat ds 2)) 0 1099511627776) (Iv.mul (iat ds 4) ⟨1099511627776, 3298534883328⟩))) else Iv.add (Iv.mul (iat ds 4) (iat ds 2)) (Iv.mul (Iv.limit (Iv.sub (Iv.twice (iat ds 0)) (iat ds 2)) 0 1099511627776) (Iv.sub (Iv.sqrt (Iv.limit (Iv.mul (iat ds 4) (iat ds 6)) 0 1099511627776)) (iat ds 4)))) := rfl
  rw [hg]
  refine ⟨fun c1 => ⟨fun c2 => ?_, fun c2 => ?_⟩, fun c1 => ?_⟩
  · rw [if_pos c1, if_pos c2]; exact AgreeS.refl _ _
  · rw [if_pos c1, if_neg c2]; exact AgreeS.refl _ _
  · rw [if_neg c1]; exact AgreeS.refl _ _)
theorem s70_fn (a b c d e f g h : D) : s70.fn [a, b, c, d, e, f, g, h] = [.int (Iv.bright (iv a b) (iv c d) (iv e f) (iv g h)).lo, .int (Iv.bright (iv a b) (iv c d) (iv e f) (iv g h)).hi] := rfl
theorem s70_pre (a b c d e f g h : D) : s70.pre [a, b, c, d, e, f, g, h] = (Iv.In01 (iv a b) ∧ Iv.In01 (iv c d) ∧ Iv.In01 (iv e f) ∧ Iv.In01 (iv g h)) := rfl
/-- compositor/real.hard -/
def c63 : Con := { f := 63, ps := [.agg [.int .i64, .int .i64], .agg [.int .i64, .int .i64], .agg [.int .i64, .int .i64], .agg [.int .i64, .int .i64], .agg [.int .i64, .int .i64], .agg [.int .i64, .int .i64]], rs := [.agg [.int .i64, .int .i64]] }
def t63 : Lt :=
 (.ask (.app (.cm .le) [.app (.ar .shl .i64) [.v 8, .lit (.int (1))], .v 11])
  (.ask (.app (.cm .gt) [.app (.ar .shl .i64) [.v 9, .lit (.int (1))], .v 10])
   (.call 0 [.v 0, .v 1, .v 4, .v 5] 2
   (.call 1 [.v 12, .v 13] 2
   (.call 0 [.v 2, .v 3, .v 6, .v 7] 2
   (.call 2 [.v 6, .v 7, .v 4, .v 5] 2
   (.call 2 [.v 2, .v 3, .v 0, .v 1] 2
   (.call 0 [.v 18, .v 19, .v 20, .v 21] 2
   (.call 1 [.v 22, .v 23] 2
   (.call 2 [.v 16, .v 17, .v 24, .v 25] 2
   (.call 3 [.v 14, .v 15, .v 26, .v 27] 2
   (.ret (.done [.v 28, .v 29])))))))))))
   (.call 0 [.v 0, .v 1, .v 4, .v 5] 2
   (.call 1 [.v 12, .v 13] 2
   (.ret (.done [.v 14, .v 15])))))
  (.call 0 [.v 2, .v 3, .v 6, .v 7] 2
  (.call 2 [.v 6, .v 7, .v 4, .v 5] 2
  (.call 2 [.v 2, .v 3, .v 0, .v 1] 2
  (.call 0 [.v 14, .v 15, .v 16, .v 17] 2
  (.call 1 [.v 18, .v 19] 2
  (.call 2 [.v 12, .v 13, .v 20, .v 21] 2
  (.ret (.done [.v 22, .v 23])))))))))
theorem t63_eq : ((fnC (PV.fast Tryz.prog) G (([s29, s72, s62, s119] : List Sx.Spec).map (·.con)) [] 300 c63 20).prune []).toTr = t63.expand (vars 12) := by kernel_rfl

def f63 (ds : List D) : List D := enc (Iv.hard (iat ds 0) (iat ds 2) (iat ds 4) (iat ds 6) (iat ds 8) (iat ds 10))
def s63 : Sx.Spec := { con := { c63 with fold := some f63 }, pre := fun ds => (Iv.In01 (iat ds 0) ∧ Iv.In01 (iat ds 2) ∧ Iv.In01 (iat ds 4) ∧ Iv.In01 (iat ds 6)) ∧ Iv.In01 (iat ds 8), fn := f63 }
theorem s63_ok : s63.Ok Tryz.prog G := lspec_ok [s29, s72, s62, s119] (by simp only [List.mem_cons, List.not_mem_nil, or_false, forall_eq_or_imp, forall_eq]; exact ⟨s29_ok, s72_ok, s62_ok, s119_ok⟩) s63 300 20 (fun g hg ds _ => by simp only [s63, Option.some.injEq] at hg ⊢; rw [hg]) t63 12 t63_eq (by
  intro ds h
  obtain ⟨h, hK⟩ := h
  obtain ⟨hS, hA, hD, hB⟩ := h
  have bS := hS.bd
  have bA := hA.bd
  have bD := hD.bd
  have bB := hB.bd
  have vS := bS.vd (by decide)
  have vA := bA.vd (by decide)
  have vD := bD.vd (by decide)
  have vB := bB.vd (by decide)
  have b1 : Iv.Bd (Iv.mul (iat ds 0) (iat ds 4)) 1 := Iv.bd_mul bS bD
  have v1 := b1.vd (by decide)
  have b2 : Iv.Bd (Iv.twice (Iv.mul (iat ds 0) (iat ds 4))) 2 := Iv.bd_twice b1
  have v2 := b2.vd (by decide)
  have b3 : Iv.Bd (Iv.mul (iat ds 2) (iat ds 6)) 1 := Iv.bd_mul bA bB
  have v3 := b3.vd (by decide)
  have b4 : Iv.Bd (Iv.sub (iat ds 6) (iat ds 4)) 2 := Iv.bd_sub bB bD
  have v4 := b4.vd (by decide)
  have b5 : Iv.Bd (Iv.sub (iat ds 2) (iat ds 0)) 2 := Iv.bd_sub bA bS
  have v5 := b5.vd (by decide)
  have b6 : Iv.Bd (Iv.mul (Iv.sub (iat ds 6) (iat ds 4)) (Iv.sub (iat ds 2) (iat ds 0))) 4 := Iv.bd_mul b4 b5
  have v6 := b6.vd (by decide)
  have b7 : Iv.Bd (Iv.twice (Iv.mul (Iv.sub (iat ds 6) (iat ds 4)) (Iv.sub (iat ds 2) (iat ds 0)))) 8 := Iv.bd_twice b6
  have v7 := b7.vd (by decide)
  have b8 : Iv.Bd (Iv.sub (Iv.mul (iat ds 2) (iat ds 6)) (Iv.twice (Iv.mul (Iv.sub (iat ds 6) (iat ds 4)) (Iv.sub (iat ds 2) (iat ds 0))))) 9 := Iv.bd_sub b3 b7
  have v8 := b8.vd (by decide)
  have b9 : Iv.Bd (Iv.hull (Iv.twice (Iv.mul (iat ds 0) (iat ds 4))) (Iv.sub (Iv.mul (iat ds 2) (iat ds 6)) (Iv.twice (Iv.mul (Iv.sub (iat ds 6) (iat ds 4)) (Iv.sub (iat ds 2) (iat ds 0)))))) 9 := Iv.bd_hull (b2.up (by decide)) b8
  have v9 := b9.vd (by decide)
  have bK := hK.bd
  have w1 : ((ds.getD 8 default).toInt * 2 + 9223372036854775808) % 18446744073709551616 - 9223372036854775808 = (ds.getD 8 default).toInt * 2 := by
    have h1 : _ ≤ (ds.getD 8 default).toInt := bK.1
    have h2 : (ds.getD 8 default).toInt ≤ (ds.getD 9 default).toInt := bK.2.1
    have h3 : (ds.getD 9 default).toInt ≤ _ := bK.2.2
    omega
  have w2 : ((ds.getD 9 default).toInt * 2 + 9223372036854775808) % 18446744073709551616 - 9223372036854775808 = (ds.getD 9 default).toInt * 2 := by
    have h1 : _ ≤ (ds.getD 8 default).toInt := bK.1
    have h2 : (ds.getD 8 default).toInt ≤ (ds.getD 9 default).toInt := bK.2.1
    have h3 : (ds.getD 9 default).toInt ≤ _ := bK.2.2
    omega
  simp only [t63, Nat.reduceAdd, Lt.holds, Lt.safe, Lt.run, Leaf.at, LeafV.Ok, envOf, resD, T.eval, T.evals, pe_ar, pe_wrap, pe_mn, pe_mx, pe_cm, pe_not, pe_beq, pe_ite, pe_len, pe_slen, pe_sat, pe_xt, pe_call, fnOf, preOf, cm_eq, cm_ne, cm_lt, cm_le, cm_gt, cm_ge, ar_add, ar_sub, ar_mul, ar_quo, ar_rem, ar_shl, ar_shr, wrap_u64, wrap_i64, wrap_u8, wrap_u16, List.getD_cons_zero, List.getD_cons_succ, List.cons_append, List.nil_append, D.toInt_int, D.toBool_bool, decide_eq_true_eq, decide_eq_false_iff_not, Bool.not_eq_true, Bool.not_eq_false, s29_fn, s29_pre, s61_fn, s61_pre, s62_fn, s62_pre, s72_fn, s72_pre, s27_val, p27, iv_en, iat0, iat2, iat4, iat6, iat8, iat10, s119_fn, s119_pre, s120_fn, s120_pre, s123_fn, s123_pre, iv_lit13, pw1, w1, w2, vS, vA, vD, vB, v1, v2, v3, v4, v5, v6, v7, v8, v9, true_and, and_true, and_self, true_implies]
  have hg : s63.fn ds = enc (if (ds.getD 8 default).toInt * 2 ≤ (ds.getD 11 default).toInt then (if (ds.getD 10 default).toInt < (ds.getD 9 default).toInt * 2 then Iv.hull (Iv.twice (Iv.mul (iat ds 0) (iat ds 4))) (Iv.sub (Iv.mul (iat ds 2) (iat ds 6)) (Iv.twice (Iv.mul (Iv.sub (iat ds 6) (iat ds 4)) (Iv.sub (iat ds 2) (iat ds 0))))) else Iv.twice (Iv.mul (iat ds 0) (iat ds 4))) else Iv.sub (Iv.mul (iat ds 2) (iat ds 6)) (Iv.twice (Iv.mul (Iv.sub (iat ds 6) (iat ds 4)) (Iv.sub (iat ds 2) (iat ds 0))))) := rfl
  rw [hg]
  refine ⟨fun c1 => ⟨fun c2 => ?_, fun c2 => ?_⟩, fun c1 => ?_⟩
  · rw [if_pos c1, if_pos c2]; exact AgreeS.refl _ _
  · rw [if_pos c1, if_neg c2]; exact AgreeS.refl _ _
  · rw [if_neg c1]; exact AgreeS.refl _ _)
theorem s63_fn (a b c d e f g h i j k l : D) : s63.fn [a, b, c, d, e, f, g, h, i, j, k, l] = [.int (Iv.hard (iv a b) (iv c d) (iv e f) (iv g h) (iv i j) (iv k l)).lo, .int (Iv.hard (iv a b) (iv c d) (iv e f) (iv g h) (iv i j) (iv k l)).hi] := rfl
theorem s63_pre (a b c d e f g h i j k l : D) : s63.pre [a, b, c, d, e, f, g, h, i, j, k, l] = ((Iv.In01 (iv a b) ∧ Iv.In01 (iv c d) ∧ Iv.In01 (iv e f) ∧ Iv.In01 (iv g h)) ∧ Iv.In01 (iv i j)) := rfl
end Go.Proofs.YteaiikmijhikpaaGreatDoor
end
section
namespace Go.Proofs.YteaiikmijhikpaaGreatDoor
open Go Go.Sx Bz
set_option maxRecDepth 100000

theorem bd_dark {S A D B : Iv.I} (hS : Iv.In01 S) (hA : Iv.In01 A) (hD : Iv.In01 D) (hB : Iv.In01 B) : Iv.Bd (Iv.dark S A D B) 2 := by
  have bS := hS.bd
  have bA := hA.bd
  have bD := hD.bd
  have bB := hB.bd
  have b1 : Iv.Bd (Iv.sub B D) 2 := Iv.bd_sub bB bD
  have b2 : Iv.Bd (Iv.limit (Iv.sub B D) 0 1099511627776) 1 := Iv.bd_unit b1.2.1
  have b3 : Iv.Bd (Iv.mul D A) 1 := Iv.bd_mul bD bA
  have b4 : Iv.Bd (Iv.twice S) 2 := Iv.bd_twice bS
  have b5 : Iv.Bd (Iv.sub A (Iv.twice S)) 3 := Iv.bd_sub bA b4
  have b6 : Iv.Bd (Iv.limit (Iv.sub A (Iv.twice S)) 0 1099511627776) 1 := Iv.bd_unit b5.2.1
  have b7 : Iv.Bd (Iv.mul D (Iv.limit (Iv.sub B D) 0 1099511627776)) 1 := Iv.bd_mul bD b2
  have b8 : Iv.Bd (Iv.part D (Iv.limit (Iv.sub B D) 0 1099511627776) B) 1 := Iv.bd_part ⟨by have := hD; unfold Iv.In01 at this; omega, by have := hD; unfold Iv.In01 at this; omega⟩ ⟨by show 0 ≤ max _ _; omega, b2.2.2⟩
  have b9 : Iv.Bd (Iv.mul (Iv.limit (Iv.sub A (Iv.twice S)) 0 1099511627776) (Iv.part D (Iv.limit (Iv.sub B D) 0 1099511627776) B)) 1 := Iv.bd_mul b6 b8
  have b10 : Iv.Bd (Iv.sub (Iv.mul D A) (Iv.mul (Iv.limit (Iv.sub A (Iv.twice S)) 0 1099511627776) (Iv.part D (Iv.limit (Iv.sub B D) 0 1099511627776) B))) 2 := Iv.bd_sub b3 b9
  exact b10
theorem bd_bright {S A D B : Iv.I} (hS : Iv.In01 S) (hA : Iv.In01 A) (hD : Iv.In01 D) (hB : Iv.In01 B) : Iv.Bd (Iv.bright S A D B) 4 := by
  have bS := hS.bd
  have bA := hA.bd
  have bD := hD.bd
  have bB := hB.bd
  have b1 : Iv.Bd (Iv.twice S) 2 := Iv.bd_twice bS
  have b2 : Iv.Bd (Iv.sub (Iv.twice S) A) 3 := Iv.bd_sub b1 bA
  have b3 : Iv.Bd (Iv.limit (Iv.sub (Iv.twice S) A) 0 1099511627776) 1 := Iv.bd_unit b2.2.1
  have b4 : Iv.Bd (Iv.mul D A) 1 := Iv.bd_mul bD bA
  have b5 : Iv.Bd (⟨1099511627776, 3298534883328⟩) 3 := ⟨by decide, by decide, by decide⟩
  have b6 : Iv.Bd (Iv.mul D ⟨1099511627776, 3298534883328⟩) 3 := Iv.bd_mul bD b5
  have b7 : Iv.Bd (Iv.mul (Iv.limit (Iv.sub (Iv.twice S) A) 0 1099511627776) (Iv.mul D ⟨1099511627776, 3298534883328⟩)) 3 := Iv.bd_mul b3 b6
  have b8 : Iv.Bd (Iv.add (Iv.mul D A) (Iv.mul (Iv.limit (Iv.sub (Iv.twice S) A) 0 1099511627776) (Iv.mul D ⟨1099511627776, 3298534883328⟩))) 4 := Iv.bd_add b4 b7
  have b9 : Iv.Bd (Iv.mul D B) 1 := Iv.bd_mul bD bB
  have b10 : Iv.Bd (Iv.limit (Iv.mul D B) 0 1099511627776) 1 := Iv.bd_unit b9.2.1
  have b11 : Iv.Bd (Iv.sqrt (Iv.limit (Iv.mul D B) 0 1099511627776)) 1 := Iv.bd_sqrt ⟨by show 0 ≤ min (max _ 0) 1099511627776; omega, b10.2.1, b10.2.2⟩
  have b12 : Iv.Bd (Iv.sub (Iv.sqrt (Iv.limit (Iv.mul D B) 0 1099511627776)) D) 2 := Iv.bd_sub b11 bD
  have b13 : Iv.Bd (Iv.mul (Iv.limit (Iv.sub (Iv.twice S) A) 0 1099511627776) (Iv.sub (Iv.sqrt (Iv.limit (Iv.mul D B) 0 1099511627776)) D)) 2 := Iv.bd_mul b3 b12
  have b14 : Iv.Bd (Iv.add (Iv.mul D A) (Iv.mul (Iv.limit (Iv.sub (Iv.twice S) A) 0 1099511627776) (Iv.sub (Iv.sqrt (Iv.limit (Iv.mul D B) 0 1099511627776)) D))) 4 := (Iv.bd_add b4 b13).up (by decide)
  have b15 : Iv.Bd (Iv.hull (Iv.add (Iv.mul D A) (Iv.mul (Iv.limit (Iv.sub (Iv.twice S) A) 0 1099511627776) (Iv.mul D ⟨1099511627776, 3298534883328⟩))) (Iv.add (Iv.mul D A) (Iv.mul (Iv.limit (Iv.sub (Iv.twice S) A) 0 1099511627776) (Iv.sub (Iv.sqrt (Iv.limit (Iv.mul D B) 0 1099511627776)) D)))) 4 := Iv.bd_hull b8 b14
  exact Iv.bd_pieces b8 b14
theorem bd_hard {S A D B K L : Iv.I} (hS : Iv.In01 S) (hA : Iv.In01 A) (hD : Iv.In01 D) (hB : Iv.In01 B) : Iv.Bd (Iv.hard S A D B K L) 9 := by
  have bS := hS.bd
  have bA := hA.bd
  have bD := hD.bd
  have bB := hB.bd
  exact Iv.bd_pieces ((Iv.bd_twice (Iv.bd_mul bS bD)).up (by decide)) (Iv.bd_sub (Iv.bd_mul bA bB) (Iv.bd_twice (Iv.bd_mul (Iv.bd_sub bB bD) (Iv.bd_sub bA bS))))
/-- What the pairs hold to go on. -/
def pOk (X Y : Iv.I) : Prop := max X.lo 0 ≤ X.hi ∧ Y.lo ≤ min Y.hi 1099511627776 ∧ max X.lo 0 ≤ min Y.hi 1099511627776
instance (X Y : Iv.I) : Decidable (pOk X Y) := inferInstanceAs (Decidable (_ ∧ _))
theorem pOk.p1 {X Y : Iv.I} (h : pOk X Y) (v : Iv.Vd X) : Iv.In01 (Iv.pair1 X Y) := by
  unfold pOk at h; unfold Iv.Vd at v; unfold Iv.In01 Iv.pair1; simp only; omega
theorem pOk.p2 {X Y : Iv.I} (h : pOk X Y) (v : Iv.Vd Y) : Iv.In01 (Iv.pair2 X Y) := by
  unfold pOk at h; unfold Iv.Vd at v; unfold Iv.In01 Iv.pair2; simp only; omega
/-- compositor/real.pair -/
def c26 : Con := { f := 26, ps := [.agg [.int .i64, .int .i64], .agg [.int .i64, .int .i64]], rs := [.agg [.int .i64, .int .i64], .agg [.int .i64, .int .i64], .at (.bool)] }
def t26 : Lt :=
 (.ask (.app (.cm .gt) [.app .mx [.v 0, .lit (.int (0))], .v 1])
  (.ret (.done [.app .mx [.v 0, .lit (.int (0))], .v 1, .v 2, .app .mn [.v 3, .lit (.int (1099511627776))], .lit (.bool false)]))
  (.ask (.app (.cm .gt) [.v 2, .app .mn [.v 3, .lit (.int (1099511627776))]])
   (.ret (.done [.app .mx [.v 0, .lit (.int (0))], .v 1, .v 2, .app .mn [.v 3, .lit (.int (1099511627776))], .lit (.bool false)]))
   (.ask (.app (.cm .gt) [.app .mx [.v 0, .lit (.int (0))], .app .mn [.v 3, .lit (.int (1099511627776))]])
    (.ret (.done [.app .mx [.v 0, .lit (.int (0))], .v 1, .v 2, .app .mn [.v 3, .lit (.int (1099511627776))], .lit (.bool false)]))
    (.ret (.done [.app .mx [.v 0, .lit (.int (0))], .app .mn [.v 1, .app .mn [.v 3, .lit (.int (1099511627776))]], .app .mx [.v 2, .app .mx [.v 0, .lit (.int (0))]], .app .mn [.v 3, .lit (.int (1099511627776))], .lit (.bool true)])))))
theorem t26_eq : ((fnC (PV.fast Tryz.prog) G (([] : List Sx.Spec).map (·.con)) [] 300 c26 20).prune []).toTr = t26.expand (vars 4) := by kernel_rfl

def s26 : Sx.Spec := .lauto c26 [] 4 t26 (fun _ => True)
theorem s26_ok : s26.Ok Tryz.prog G := lauto_ok (by simp) 300 20 t26_eq (by
  intro ds _; simp [t26, Lt.safe, preOf])
theorem p26 (l : List D) : s26.pre l = True := rfl
theorem p25 (l : List D) : s25.pre l = True := rfl
theorem s26_yes {a b c d : D} (h : pOk (iv a b) (iv c d)) : s26.fn [a, b, c, d] = [.int (Iv.pair1 (iv a b) (iv c d)).lo, .int (Iv.pair1 (iv a b) (iv c d)).hi, .int (Iv.pair2 (iv a b) (iv c d)).lo, .int (Iv.pair2 (iv a b) (iv c d)).hi, .bool true] := by
  have e : s26.fn [a, b, c, d] = t26.run (fnOf []) [a, b, c, d] := rfl
  obtain ⟨h1, h2, h3⟩ := h
  simp only [iv] at h1 h2 h3
  rw [e]
  simp only [t26, Nat.reduceAdd, Lt.holds, Lt.safe, Lt.run, Leaf.at, LeafV.Ok, envOf, resD, T.eval, T.evals, pe_ar, pe_wrap, pe_mn, pe_mx, pe_cm, pe_not, pe_beq, pe_ite, pe_len, pe_slen, pe_sat, pe_xt, pe_call, fnOf, preOf, cm_eq, cm_ne, cm_lt, cm_le, cm_gt, cm_ge, ar_add, ar_sub, ar_mul, ar_quo, ar_rem, ar_shl, ar_shr, wrap_u64, wrap_i64, wrap_u8, wrap_u16, List.getD_cons_zero, List.getD_cons_succ, List.cons_append, List.nil_append, D.toInt_int, D.toBool_bool, decide_eq_true_eq, decide_eq_false_iff_not, Bool.not_eq_true, Bool.not_eq_false, Iv.pair1, Iv.pair2, iv]
  rw [decide_eq_false (by omega), decide_eq_false (by omega), decide_eq_false (by omega)]
theorem s26_no {a b c d : D} (h : ¬ pOk (iv a b) (iv c d)) : ∃ p q r t, s26.fn [a, b, c, d] = [p, q, r, t, .bool false] := by
  have e : s26.fn [a, b, c, d] = t26.run (fnOf []) [a, b, c, d] := rfl
  simp only [pOk, iv] at h
  rw [e]
  simp only [t26, Nat.reduceAdd, Lt.holds, Lt.safe, Lt.run, Leaf.at, LeafV.Ok, envOf, resD, T.eval, T.evals, pe_ar, pe_wrap, pe_mn, pe_mx, pe_cm, pe_not, pe_beq, pe_ite, pe_len, pe_slen, pe_sat, pe_xt, pe_call, fnOf, preOf, cm_eq, cm_ne, cm_lt, cm_le, cm_gt, cm_ge, ar_add, ar_sub, ar_mul, ar_quo, ar_rem, ar_shl, ar_shr, wrap_u64, wrap_i64, wrap_u8, wrap_u16, List.getD_cons_zero, List.getD_cons_succ, List.cons_append, List.nil_append, D.toInt_int, D.toBool_bool, decide_eq_true_eq, decide_eq_false_iff_not, Bool.not_eq_true, Bool.not_eq_false]
  by_cases c1 : b.toInt < max a.toInt 0
  · rw [decide_eq_true c1]; exact ⟨_, _, _, _, rfl⟩
  · rw [decide_eq_false c1]
    by_cases c2 : min d.toInt 1099511627776 < c.toInt
    · rw [decide_eq_true c2]; exact ⟨_, _, _, _, rfl⟩
    · rw [decide_eq_false c2]
      by_cases c3 : min d.toInt 1099511627776 < max a.toInt 0
      · rw [decide_eq_true c3]; exact ⟨_, _, _, _, rfl⟩
      · exact absurd ⟨by omega, by omega, by omega⟩ h
/-- compositor/real.term -/
def c28 : Con := { f := 28, ps := [.at (.int .i64), .agg [.int .i64, .int .i64], .agg [.int .i64, .int .i64], .agg [.int .i64, .int .i64], .agg [.int .i64, .int .i64]], rs := [.agg [.int .i64, .int .i64]] }
def t28 : Lt :=
 (.ask (.app (.cm .eq) [.v 0, .lit (.int (1))])
  (.call 0 [.v 1, .v 2, .v 7, .v 8] 2
  (.ret (.done [.v 9, .v 10])))
  (.ask (.app (.cm .eq) [.v 0, .lit (.int (2))])
   (.call 0 [.v 1, .v 2, .v 5, .v 6] 2
   (.ret (.done [.v 9, .v 10])))
   (.ask (.app (.cm .eq) [.v 0, .lit (.int (3))])
    (.call 0 [.v 1, .v 2, .v 7, .v 8] 2
    (.call 2 [.v 3, .v 4, .v 1, .v 2] 2
    (.call 0 [.v 5, .v 6, .v 11, .v 12] 2
    (.call 1 [.v 9, .v 10, .v 13, .v 14] 2
    (.ret (.done [.v 15, .v 16]))))))
    (.ask (.app (.cm .eq) [.v 0, .lit (.int (4))])
     (.call 3 [.v 1, .v 2, .v 3, .v 4, .v 5, .v 6, .v 7, .v 8, .v 5, .v 6, .v 7, .v 8] 2
     (.ret (.done [.v 9, .v 10])))
     (.ask (.app (.cm .eq) [.v 0, .lit (.int (5))])
      (.call 0 [.v 1, .v 2, .v 7, .v 8] 2
      (.call 0 [.v 5, .v 6, .v 3, .v 4] 2
      (.call 4 [.v 9, .v 10, .v 11, .v 12] 2
      (.ret (.done [.v 13, .v 14])))))
      (.ask (.app (.cm .eq) [.v 0, .lit (.int (6))])
       (.call 0 [.v 1, .v 2, .v 7, .v 8] 2
       (.call 0 [.v 5, .v 6, .v 3, .v 4] 2
       (.call 5 [.v 9, .v 10, .v 11, .v 12] 2
       (.ret (.done [.v 13, .v 14])))))
       (.ask (.app (.cm .eq) [.v 0, .lit (.int (9))])
        (.call 3 [.v 1, .v 2, .v 3, .v 4, .v 5, .v 6, .v 7, .v 8, .v 1, .v 2, .v 3, .v 4] 2
        (.ret (.done [.v 9, .v 10])))
        (.ask (.app (.cm .eq) [.v 0, .lit (.int (10))])
         (.ask (.app (.cm .le) [.app (.ar .shl .i64) [.v 1, .lit (.int (1))], .v 4])
          (.ask (.app (.cm .gt) [.app (.ar .shl .i64) [.v 2, .lit (.int (1))], .v 3])
           (.call 6 [.v 1, .v 2, .v 3, .v 4, .v 5, .v 6, .v 7, .v 8] 2
           (.call 7 [.v 1, .v 2, .v 3, .v 4, .v 5, .v 6, .v 7, .v 8] 2
           (.call 10 [.v 9, .v 10, .v 11, .v 12] 2
           (.ret (.done [.v 13, .v 14])))))
           (.call 6 [.v 1, .v 2, .v 3, .v 4, .v 5, .v 6, .v 7, .v 8] 2
           (.ret (.done [.v 9, .v 10]))))
          (.call 7 [.v 1, .v 2, .v 3, .v 4, .v 5, .v 6, .v 7, .v 8] 2
          (.ret (.done [.v 9, .v 10]))))
         (.ask (.app (.cm .eq) [.v 0, .lit (.int (11))])
          (.call 0 [.v 1, .v 2, .v 7, .v 8] 2
          (.call 0 [.v 5, .v 6, .v 3, .v 4] 2
          (.call 2 [.v 9, .v 10, .v 11, .v 12] 2
          (.call 8 [.v 13, .v 14] 2
          (.ret (.done [.v 15, .v 16]))))))
          (.call 0 [.v 1, .v 2, .v 7, .v 8] 2
          (.call 0 [.v 5, .v 6, .v 3, .v 4] 2
          (.call 1 [.v 9, .v 10, .v 11, .v 12] 2
          (.call 0 [.v 1, .v 2, .v 5, .v 6] 2
          (.call 9 [.v 15, .v 16] 2
          (.call 2 [.v 13, .v 14, .v 17, .v 18] 2
          (.ret (.done [.v 19, .v 20])))))))))))))))))
theorem t28_eq : ((fnC (PV.fast Tryz.prog) G (([s29, s61, s62, s63, s64, s65, s68, s70, s71, s72, s119] : List Sx.Spec).map (·.con)) [] 300 c28 20).prune []).toTr = t28.expand (vars 9) := by kernel_rfl

def f28 (ds : List D) : List D := enc (Iv.term (ds.getD 0 default).toInt (iat ds 1) (iat ds 3) (iat ds 5) (iat ds 7))
def s28 : Sx.Spec := { con := { c28 with fold := some f28 }, pre := fun ds => Iv.In01 (iat ds 1) ∧ Iv.In01 (iat ds 3) ∧ Iv.In01 (iat ds 5) ∧ Iv.In01 (iat ds 7), fn := f28 }
set_option maxHeartbeats 2000000 in
theorem s28_ok : s28.Ok Tryz.prog G := lspec_ok [s29, s61, s62, s63, s64, s65, s68, s70, s71, s72, s119] (by simp only [List.mem_cons, List.not_mem_nil, or_false, forall_eq_or_imp, forall_eq]; exact ⟨s29_ok, s61_ok, s62_ok, s63_ok, s64_ok, s65_ok, s68_ok, s70_ok, s71_ok, s72_ok, s119_ok⟩) s28 300 20 (fun g hg ds _ => by simp only [s28, Option.some.injEq] at hg ⊢; rw [hg]) t28 9 t28_eq (by
  intro ds h
  obtain ⟨hS, hA, hD, hB⟩ := h
  have bS := hS.bd
  have bA := hA.bd
  have bD := hD.bd
  have bB := hB.bd
  have vS := bS.vd (by decide)
  have vA := bA.vd (by decide)
  have vD := bD.vd (by decide)
  have vB := bB.vd (by decide)
  have b1 : Iv.Bd (Iv.mul (iat ds 1) (iat ds 7)) 1 := Iv.bd_mul bS bB
  have v1 := b1.vd (by decide)
  have b2 : Iv.Bd (Iv.mul (iat ds 1) (iat ds 5)) 1 := Iv.bd_mul bS bD
  have v2 := b2.vd (by decide)
  have b3 : Iv.Bd (Iv.sub (iat ds 3) (iat ds 1)) 2 := Iv.bd_sub bA bS
  have v3 := b3.vd (by decide)
  have b4 : Iv.Bd (Iv.mul (iat ds 5) (Iv.sub (iat ds 3) (iat ds 1))) 2 := Iv.bd_mul bD b3
  have v4 := b4.vd (by decide)
  have b5 : Iv.Bd (Iv.add (Iv.mul (iat ds 1) (iat ds 7)) (Iv.mul (iat ds 5) (Iv.sub (iat ds 3) (iat ds 1)))) 3 := Iv.bd_add b1 b4
  have v5 := b5.vd (by decide)
  have b6 : Iv.Bd (Iv.mul (iat ds 5) (iat ds 3)) 1 := Iv.bd_mul bD bA
  have v6 := b6.vd (by decide)
  have b7 : Iv.Bd (Iv.least (Iv.mul (iat ds 1) (iat ds 7)) (Iv.mul (iat ds 5) (iat ds 3))) 1 := Iv.bd_least b1 b6
  have v7 := b7.vd (by decide)
  have b8 : Iv.Bd (Iv.most (Iv.mul (iat ds 1) (iat ds 7)) (Iv.mul (iat ds 5) (iat ds 3))) 1 := Iv.bd_most b1 b6
  have v8 := b8.vd (by decide)
  have b9 : Iv.Bd (Iv.dark (iat ds 1) (iat ds 3) (iat ds 5) (iat ds 7)) 4 := (bd_dark hS hA hD hB).up (by decide)
  have v9 := b9.vd (by decide)
  have b10 : Iv.Bd (Iv.bright (iat ds 1) (iat ds 3) (iat ds 5) (iat ds 7)) 4 := bd_bright hS hA hD hB
  have v10 := b10.vd (by decide)
  have b11 : Iv.Bd (Iv.hull (Iv.dark (iat ds 1) (iat ds 3) (iat ds 5) (iat ds 7)) (Iv.bright (iat ds 1) (iat ds 3) (iat ds 5) (iat ds 7))) 4 := Iv.bd_hull b9 b10
  have v11 := b11.vd (by decide)
  have b12 : Iv.Bd (Iv.sub (Iv.mul (iat ds 1) (iat ds 7)) (Iv.mul (iat ds 5) (iat ds 3))) 2 := Iv.bd_sub b1 b6
  have v12 := b12.vd (by decide)
  have b13 : Iv.Bd (Iv.add (Iv.mul (iat ds 1) (iat ds 7)) (Iv.mul (iat ds 5) (iat ds 3))) 2 := Iv.bd_add b1 b6
  have v13 := b13.vd (by decide)
  have b14 : Iv.Bd (Iv.twice (Iv.mul (iat ds 1) (iat ds 5))) 2 := Iv.bd_twice b2
  have v14 := b14.vd (by decide)
  have b15 : Iv.Bd (Iv.sub (Iv.add (Iv.mul (iat ds 1) (iat ds 7)) (Iv.mul (iat ds 5) (iat ds 3))) (Iv.twice (Iv.mul (iat ds 1) (iat ds 5)))) 4 := Iv.bd_sub b13 b14
  have v15 := b15.vd (by decide)
  have w1 : ((ds.getD 1 default).toInt * 2 + 9223372036854775808) % 18446744073709551616 - 9223372036854775808 = (ds.getD 1 default).toInt * 2 := by
    have h1 : _ ≤ (ds.getD 1 default).toInt := bS.1
    have h2 : (ds.getD 1 default).toInt ≤ (ds.getD 2 default).toInt := bS.2.1
    have h3 : (ds.getD 2 default).toInt ≤ _ := bS.2.2
    omega
  have w2 : ((ds.getD 2 default).toInt * 2 + 9223372036854775808) % 18446744073709551616 - 9223372036854775808 = (ds.getD 2 default).toInt * 2 := by
    have h1 : _ ≤ (ds.getD 1 default).toInt := bS.1
    have h2 : (ds.getD 1 default).toInt ≤ (ds.getD 2 default).toInt := bS.2.1
    have h3 : (ds.getD 2 default).toInt ≤ _ := bS.2.2
    omega
  have hg : s28.fn ds = enc (Iv.term (ds.getD 0 default).toInt (iat ds 1) (iat ds 3) (iat ds 5) (iat ds 7)) := rfl
  rw [hg]
  have hx : Iv.pieces (iat ds 1) (iat ds 3) 2 (Iv.dark (iat ds 1) (iat ds 3) (iat ds 5) (iat ds 7)) (Iv.bright (iat ds 1) (iat ds 3) (iat ds 5) (iat ds 7)) = if (ds.getD 1 default).toInt * 2 ≤ (ds.getD 4 default).toInt then (if (ds.getD 3 default).toInt < (ds.getD 2 default).toInt * 2 then Iv.hull (Iv.dark (iat ds 1) (iat ds 3) (iat ds 5) (iat ds 7)) (Iv.bright (iat ds 1) (iat ds 3) (iat ds 5) (iat ds 7)) else Iv.dark (iat ds 1) (iat ds 3) (iat ds 5) (iat ds 7)) else Iv.bright (iat ds 1) (iat ds 3) (iat ds 5) (iat ds 7) := rfl
  unfold Iv.term
  simp only [t28, Nat.reduceAdd, Lt.holds, Lt.safe, Lt.run, Leaf.at, LeafV.Ok, envOf, resD, T.eval, T.evals, pe_ar, pe_wrap, pe_mn, pe_mx, pe_cm, pe_not, pe_beq, pe_ite, pe_len, pe_slen, pe_sat, pe_xt, pe_call, fnOf, preOf, cm_eq, cm_ne, cm_lt, cm_le, cm_gt, cm_ge, ar_add, ar_sub, ar_mul, ar_quo, ar_rem, ar_shl, ar_shr, wrap_u64, wrap_i64, wrap_u8, wrap_u16, List.getD_cons_zero, List.getD_cons_succ, List.cons_append, List.nil_append, D.toInt_int, D.toBool_bool, decide_eq_true_eq, decide_eq_false_iff_not, Bool.not_eq_true, Bool.not_eq_false, s29_fn, s29_pre, s61_fn, s61_pre, s62_fn, s62_pre, s72_fn, s72_pre, s27_val, p27, iv_en, s119_fn, s119_pre, s120_fn, s120_pre, s123_fn, s123_pre, iv_lit13, s63_fn, s63_pre, s64_fn, s64_pre, s65_fn, s65_pre, s68_fn, s68_pre, s70_fn, s70_pre, p71, s71_val, pw1, iat1, iat3, iat5, iat7, w1, w2, hS, hA, hD, hB, vS, vA, vD, vB, v1, v2, v3, v4, v5, v6, v7, v8, v9, v10, v11, v12, v13, v14, v15, true_and, and_true, and_self, true_implies]
  refine ⟨fun c => by rw [if_pos c]; exact AgreeS.refl _ _, fun c => ?_⟩
  rw [if_neg c]
  refine ⟨fun c => by rw [if_pos c]; exact AgreeS.refl _ _, fun c => ?_⟩
  rw [if_neg c]
  refine ⟨fun c => by rw [if_pos c]; exact AgreeS.refl _ _, fun c => ?_⟩
  rw [if_neg c]
  refine ⟨fun c => by rw [if_pos c]; exact AgreeS.refl _ _, fun c => ?_⟩
  rw [if_neg c]
  refine ⟨fun c => by rw [if_pos c]; exact AgreeS.refl _ _, fun c => ?_⟩
  rw [if_neg c]
  refine ⟨fun c => by rw [if_pos c]; exact AgreeS.refl _ _, fun c => ?_⟩
  rw [if_neg c]
  refine ⟨fun c => by rw [if_pos c]; exact AgreeS.refl _ _, fun c => ?_⟩
  rw [if_neg c]
  refine ⟨fun c => ?_, fun c => ?_⟩
  · rw [if_pos c, hx]
    refine ⟨fun c1 => ⟨fun c2 => ?_, fun c2 => ?_⟩, fun c1 => ?_⟩
    · rw [if_pos c1, if_pos c2]; exact AgreeS.refl _ _
    · rw [if_pos c1, if_neg c2]; exact AgreeS.refl _ _
    · rw [if_neg c1]; exact AgreeS.refl _ _
  · rw [if_neg c]
    exact ⟨fun c => by rw [if_pos c]; exact AgreeS.refl _ _, fun c => by rw [if_neg c]; exact AgreeS.refl _ _⟩)
theorem s28_fn (m a b c d e f g h : D) : s28.fn [m, a, b, c, d, e, f, g, h] = [.int (Iv.term m.toInt (iv a b) (iv c d) (iv e f) (iv g h)).lo, .int (Iv.term m.toInt (iv a b) (iv c d) (iv e f) (iv g h)).hi] := rfl
theorem s28_pre (m a b c d e f g h : D) : s28.pre [m, a, b, c, d, e, f, g, h] = (Iv.In01 (iv a b) ∧ Iv.In01 (iv c d) ∧ Iv.In01 (iv e f) ∧ Iv.In01 (iv g h)) := rfl
/-- compositor/real.Term -/
def c11 : Con := { f := 11, ps := [.at (.int .i64), .agg [.int .i64, .int .i64], .agg [.int .i64, .int .i64], .agg [.int .i64, .int .i64], .agg [.int .i64, .int .i64]], rs := [.agg [.int .i64, .int .i64], .at (.bool)] }
def t11 : Lt :=
 (.call 0 [.v 1, .v 2] 1
 (.ask (.v 9)
  (.call 0 [.v 3, .v 4] 1
  (.ask (.v 10)
   (.call 0 [.v 5, .v 6] 1
   (.ask (.v 11)
    (.call 0 [.v 7, .v 8] 1
    (.ask (.v 12)
     (.call 1 [.v 0] 1
     (.ask (.v 13)
      (.call 2 [.v 1, .v 2, .v 3, .v 4] 5
      (.call 2 [.v 5, .v 6, .v 7, .v 8] 5
      (.ask (.v 18)
       (.ask (.v 23)
        (.call 4 [.v 0, .v 14, .v 15, .v 16, .v 17, .v 19, .v 20, .v 21, .v 22] 2
        (.call 5 [.v 16, .v 17, .v 21, .v 22] 2
        (.call 3 [.v 24, .v 25, .lit (.int (0)), .v 27] 2
        (.ret (.done [.v 28, .v 29, .lit (.bool true)])))))
        (.ret (.done [.lit (.int (0)), .lit (.int (0)), .lit (.bool false)])))
       (.ret (.done [.lit (.int (0)), .lit (.int (0)), .lit (.bool false)])))))
      (.ret (.done [.lit (.int (0)), .lit (.int (0)), .lit (.bool false)]))))
     (.ret (.done [.lit (.int (0)), .lit (.int (0)), .lit (.bool false)]))))
    (.ret (.done [.lit (.int (0)), .lit (.int (0)), .lit (.bool false)]))))
   (.ret (.done [.lit (.int (0)), .lit (.int (0)), .lit (.bool false)]))))
  (.ret (.done [.lit (.int (0)), .lit (.int (0)), .lit (.bool false)]))))
theorem t11_eq : ((fnC (PV.fast Tryz.prog) G (([s24, s25, s26, s27, s28, s29] : List Sx.Spec).map (·.con)) [] 300 c11 20).prune []).toTr = t11.expand (vars 9) := by kernel_rfl

def f11 (ds : List D) : List D := if Iv.Vd (iat ds 1) ∧ Iv.Vd (iat ds 3) ∧ Iv.Vd (iat ds 5) ∧ Iv.Vd (iat ds 7) ∧ Kn (ds.getD 0 default).toInt ∧ pOk (iat ds 1) (iat ds 3) ∧ pOk (iat ds 5) (iat ds 7) then enc (Iv.Term (ds.getD 0 default).toInt (iat ds 1) (iat ds 3) (iat ds 5) (iat ds 7)) ++ [.bool true] else [.int 0, .int 0, .bool false]
def s11 : Sx.Spec := { con := { c11 with fold := some f11 }, pre := fun _ => True, fn := f11 }
theorem s11_ok : s11.Ok Tryz.prog G := lspec_ok [s24, s25, s26, s27, s28, s29] (by simp only [List.mem_cons, List.not_mem_nil, or_false, forall_eq_or_imp, forall_eq]; exact ⟨s24_ok, s25_ok, s26_ok, s27_ok, s28_ok, s29_ok⟩) s11 300 20 (fun g hg ds _ => by simp only [s11, Option.some.injEq] at hg ⊢; rw [hg]) t11 9 t11_eq (by
  intro ds _
  have hg : s11.fn ds = if Iv.Vd (iat ds 1) ∧ Iv.Vd (iat ds 3) ∧ Iv.Vd (iat ds 5) ∧ Iv.Vd (iat ds 7) ∧ Kn (ds.getD 0 default).toInt ∧ pOk (iat ds 1) (iat ds 3) ∧ pOk (iat ds 5) (iat ds 7) then enc (Iv.Term (ds.getD 0 default).toInt (iat ds 1) (iat ds 3) (iat ds 5) (iat ds 7)) ++ [.bool true] else [.int 0, .int 0, .bool false] := rfl
  rw [hg]
  by_cases c1 : Iv.Vd (iat ds 1)
  case neg =>
    rw [if_neg (fun h => c1 h.1)]
    have e1 : s24.fn [ds.getD 1 default, ds.getD 2 default] = [.bool false] := s24_no c1
    simp only [t11, Nat.reduceAdd, Lt.holds, Lt.safe, Lt.run, Leaf.at, LeafV.Ok, envOf, resD, T.eval, T.evals, pe_ar, pe_wrap, pe_mn, pe_mx, pe_cm, pe_not, pe_beq, pe_ite, pe_len, pe_slen, pe_sat, pe_xt, pe_call, fnOf, preOf, cm_eq, cm_ne, cm_lt, cm_le, cm_gt, cm_ge, ar_add, ar_sub, ar_mul, ar_quo, ar_rem, ar_shl, ar_shr, wrap_u64, wrap_i64, wrap_u8, wrap_u16, List.getD_cons_zero, List.getD_cons_succ, List.cons_append, List.nil_append, D.toInt_int, D.toBool_bool, decide_eq_true_eq, decide_eq_false_iff_not, Bool.not_eq_true, Bool.not_eq_false, p24, p25, p26, p27, e1, true_and, and_true, and_self, true_implies, Bool.true_eq_false, Bool.false_eq_true, false_implies]
    exact AgreeS.refl _ _
  have e1 : s24.fn [ds.getD 1 default, ds.getD 2 default] = [.bool true] := s24_iv c1
  by_cases c2 : Iv.Vd (iat ds 3)
  case neg =>
    rw [if_neg (fun h => c2 h.2.1)]
    have e2 : s24.fn [ds.getD 3 default, ds.getD 4 default] = [.bool false] := s24_no c2
    simp only [t11, Nat.reduceAdd, Lt.holds, Lt.safe, Lt.run, Leaf.at, LeafV.Ok, envOf, resD, T.eval, T.evals, pe_ar, pe_wrap, pe_mn, pe_mx, pe_cm, pe_not, pe_beq, pe_ite, pe_len, pe_slen, pe_sat, pe_xt, pe_call, fnOf, preOf, cm_eq, cm_ne, cm_lt, cm_le, cm_gt, cm_ge, ar_add, ar_sub, ar_mul, ar_quo, ar_rem, ar_shl, ar_shr, wrap_u64, wrap_i64, wrap_u8, wrap_u16, List.getD_cons_zero, List.getD_cons_succ, List.cons_append, List.nil_append, D.toInt_int, D.toBool_bool, decide_eq_true_eq, decide_eq_false_iff_not, Bool.not_eq_true, Bool.not_eq_false, p24, p25, p26, p27, e1, e2, true_and, and_true, and_self, true_implies, Bool.true_eq_false, Bool.false_eq_true, false_implies]
    exact AgreeS.refl _ _
  have e2 : s24.fn [ds.getD 3 default, ds.getD 4 default] = [.bool true] := s24_iv c2
  by_cases c3 : Iv.Vd (iat ds 5)
  case neg =>
    rw [if_neg (fun h => c3 h.2.2.1)]
    have e3 : s24.fn [ds.getD 5 default, ds.getD 6 default] = [.bool false] := s24_no c3
    simp only [t11, Nat.reduceAdd, Lt.holds, Lt.safe, Lt.run, Leaf.at, LeafV.Ok, envOf, resD, T.eval, T.evals, pe_ar, pe_wrap, pe_mn, pe_mx, pe_cm, pe_not, pe_beq, pe_ite, pe_len, pe_slen, pe_sat, pe_xt, pe_call, fnOf, preOf, cm_eq, cm_ne, cm_lt, cm_le, cm_gt, cm_ge, ar_add, ar_sub, ar_mul, ar_quo, ar_rem, ar_shl, ar_shr, wrap_u64, wrap_i64, wrap_u8, wrap_u16, List.getD_cons_zero, List.getD_cons_succ, List.cons_append, List.nil_append, D.toInt_int, D.toBool_bool, decide_eq_true_eq, decide_eq_false_iff_not, Bool.not_eq_true, Bool.not_eq_false, p24, p25, p26, p27, e1, e2, e3, true_and, and_true, and_self, true_implies, Bool.true_eq_false, Bool.false_eq_true, false_implies]
    exact AgreeS.refl _ _
  have e3 : s24.fn [ds.getD 5 default, ds.getD 6 default] = [.bool true] := s24_iv c3
  by_cases c4 : Iv.Vd (iat ds 7)
  case neg =>
    rw [if_neg (fun h => c4 h.2.2.2.1)]
    have e4 : s24.fn [ds.getD 7 default, ds.getD 8 default] = [.bool false] := s24_no c4
    simp only [t11, Nat.reduceAdd, Lt.holds, Lt.safe, Lt.run, Leaf.at, LeafV.Ok, envOf, resD, T.eval, T.evals, pe_ar, pe_wrap, pe_mn, pe_mx, pe_cm, pe_not, pe_beq, pe_ite, pe_len, pe_slen, pe_sat, pe_xt, pe_call, fnOf, preOf, cm_eq, cm_ne, cm_lt, cm_le, cm_gt, cm_ge, ar_add, ar_sub, ar_mul, ar_quo, ar_rem, ar_shl, ar_shr, wrap_u64, wrap_i64, wrap_u8, wrap_u16, List.getD_cons_zero, List.getD_cons_succ, List.cons_append, List.nil_append, D.toInt_int, D.toBool_bool, decide_eq_true_eq, decide_eq_false_iff_not, Bool.not_eq_true, Bool.not_eq_false, p24, p25, p26, p27, e1, e2, e3, e4, true_and, and_true, and_self, true_implies, Bool.true_eq_false, Bool.false_eq_true, false_implies]
    exact AgreeS.refl _ _
  have e4 : s24.fn [ds.getD 7 default, ds.getD 8 default] = [.bool true] := s24_iv c4
  by_cases c5 : Kn (ds.getD 0 default).toInt
  case neg =>
    rw [if_neg (fun h => c5 h.2.2.2.2.1)]
    have e5 : s25.fn [ds.getD 0 default] = [.bool false] := by rw [s25_val, decide_eq_false c5]
    simp only [t11, Nat.reduceAdd, Lt.holds, Lt.safe, Lt.run, Leaf.at, LeafV.Ok, envOf, resD, T.eval, T.evals, pe_ar, pe_wrap, pe_mn, pe_mx, pe_cm, pe_not, pe_beq, pe_ite, pe_len, pe_slen, pe_sat, pe_xt, pe_call, fnOf, preOf, cm_eq, cm_ne, cm_lt, cm_le, cm_gt, cm_ge, ar_add, ar_sub, ar_mul, ar_quo, ar_rem, ar_shl, ar_shr, wrap_u64, wrap_i64, wrap_u8, wrap_u16, List.getD_cons_zero, List.getD_cons_succ, List.cons_append, List.nil_append, D.toInt_int, D.toBool_bool, decide_eq_true_eq, decide_eq_false_iff_not, Bool.not_eq_true, Bool.not_eq_false, p24, p25, p26, p27, e1, e2, e3, e4, e5, true_and, and_true, and_self, true_implies, Bool.true_eq_false, Bool.false_eq_true, false_implies]
    exact AgreeS.refl _ _
  have e5 : s25.fn [ds.getD 0 default] = [.bool true] := by rw [s25_val, decide_eq_true c5]
  by_cases c6 : pOk (iat ds 1) (iat ds 3)
  case neg =>
    rw [if_neg (fun h => c6 h.2.2.2.2.2.1)]
    obtain ⟨p, q, r, t, e6⟩ : ∃ p q r t, s26.fn [ds.getD 1 default, ds.getD 2 default, ds.getD 3 default, ds.getD 4 default] = [p, q, r, t, .bool false] := s26_no c6
    simp only [t11, Nat.reduceAdd, Lt.holds, Lt.safe, Lt.run, Leaf.at, LeafV.Ok, envOf, resD, T.eval, T.evals, pe_ar, pe_wrap, pe_mn, pe_mx, pe_cm, pe_not, pe_beq, pe_ite, pe_len, pe_slen, pe_sat, pe_xt, pe_call, fnOf, preOf, cm_eq, cm_ne, cm_lt, cm_le, cm_gt, cm_ge, ar_add, ar_sub, ar_mul, ar_quo, ar_rem, ar_shl, ar_shr, wrap_u64, wrap_i64, wrap_u8, wrap_u16, List.getD_cons_zero, List.getD_cons_succ, List.cons_append, List.nil_append, D.toInt_int, D.toBool_bool, decide_eq_true_eq, decide_eq_false_iff_not, Bool.not_eq_true, Bool.not_eq_false, p24, p25, p26, p27, e1, e2, e3, e4, e5, e6, true_and, and_true, and_self, true_implies, Bool.true_eq_false, Bool.false_eq_true, false_implies]
    exact AgreeS.refl _ _
  have e6 : s26.fn [ds.getD 1 default, ds.getD 2 default, ds.getD 3 default, ds.getD 4 default] = [.int (Iv.pair1 (iat ds 1) (iat ds 3)).lo, .int (Iv.pair1 (iat ds 1) (iat ds 3)).hi, .int (Iv.pair2 (iat ds 1) (iat ds 3)).lo, .int (Iv.pair2 (iat ds 1) (iat ds 3)).hi, .bool true] := s26_yes c6
  by_cases c7 : pOk (iat ds 5) (iat ds 7)
  case neg =>
    rw [if_neg (fun h => c7 h.2.2.2.2.2.2)]
    obtain ⟨p, q, r, t, e7⟩ : ∃ p q r t, s26.fn [ds.getD 5 default, ds.getD 6 default, ds.getD 7 default, ds.getD 8 default] = [p, q, r, t, .bool false] := s26_no c7
    simp only [t11, Nat.reduceAdd, Lt.holds, Lt.safe, Lt.run, Leaf.at, LeafV.Ok, envOf, resD, T.eval, T.evals, pe_ar, pe_wrap, pe_mn, pe_mx, pe_cm, pe_not, pe_beq, pe_ite, pe_len, pe_slen, pe_sat, pe_xt, pe_call, fnOf, preOf, cm_eq, cm_ne, cm_lt, cm_le, cm_gt, cm_ge, ar_add, ar_sub, ar_mul, ar_quo, ar_rem, ar_shl, ar_shr, wrap_u64, wrap_i64, wrap_u8, wrap_u16, List.getD_cons_zero, List.getD_cons_succ, List.cons_append, List.nil_append, D.toInt_int, D.toBool_bool, decide_eq_true_eq, decide_eq_false_iff_not, Bool.not_eq_true, Bool.not_eq_false, p24, p25, p26, p27, e1, e2, e3, e4, e5, e6, e7, true_and, and_true, and_self, true_implies, Bool.true_eq_false, Bool.false_eq_true, false_implies]
    exact AgreeS.refl _ _
  have e7 : s26.fn [ds.getD 5 default, ds.getD 6 default, ds.getD 7 default, ds.getD 8 default] = [.int (Iv.pair1 (iat ds 5) (iat ds 7)).lo, .int (Iv.pair1 (iat ds 5) (iat ds 7)).hi, .int (Iv.pair2 (iat ds 5) (iat ds 7)).lo, .int (Iv.pair2 (iat ds 5) (iat ds 7)).hi, .bool true] := s26_yes c7
  rw [if_pos ⟨c1, c2, c3, c4, c5, c6, c7⟩]
  have i1 : Iv.In01 (Iv.pair1 (iat ds 1) (iat ds 3)) := c6.p1 c1
  have i2 : Iv.In01 (Iv.pair2 (iat ds 1) (iat ds 3)) := c6.p2 c2
  have i3 : Iv.In01 (Iv.pair1 (iat ds 5) (iat ds 7)) := c7.p1 c3
  have i4 : Iv.In01 (Iv.pair2 (iat ds 5) (iat ds 7)) := c7.p2 c4
  have v1 := i2.bd.vd (by decide)
  have v2 := i4.bd.vd (by decide)
  have v3 := (Iv.bd_mul i2.bd i4.bd).vd (by decide)
  have hT : (Iv.Term (ds.getD 0 default).toInt (iat ds 1) (iat ds 3) (iat ds 5) (iat ds 7)) = Iv.limit (Iv.term (ds.getD 0 default).toInt (Iv.pair1 (iat ds 1) (iat ds 3)) (Iv.pair2 (iat ds 1) (iat ds 3)) (Iv.pair1 (iat ds 5) (iat ds 7)) (Iv.pair2 (iat ds 5) (iat ds 7))) 0 (Iv.mul (Iv.pair2 (iat ds 1) (iat ds 3)) (Iv.pair2 (iat ds 5) (iat ds 7))).hi := rfl
  simp only [t11, Nat.reduceAdd, Lt.holds, Lt.safe, Lt.run, Leaf.at, LeafV.Ok, envOf, resD, T.eval, T.evals, pe_ar, pe_wrap, pe_mn, pe_mx, pe_cm, pe_not, pe_beq, pe_ite, pe_len, pe_slen, pe_sat, pe_xt, pe_call, fnOf, preOf, cm_eq, cm_ne, cm_lt, cm_le, cm_gt, cm_ge, ar_add, ar_sub, ar_mul, ar_quo, ar_rem, ar_shl, ar_shr, wrap_u64, wrap_i64, wrap_u8, wrap_u16, List.getD_cons_zero, List.getD_cons_succ, List.cons_append, List.nil_append, D.toInt_int, D.toBool_bool, decide_eq_true_eq, decide_eq_false_iff_not, Bool.not_eq_true, Bool.not_eq_false, p24, p25, p26, p27, e1, e2, e3, e4, e5, e6, e7, s28_fn, s28_pre, s29_fn, s29_pre, s27_val, iv_en, i1, i2, i3, i4, v1, v2, v3, true_and, and_true, and_self, true_implies, Bool.true_eq_false, Bool.false_eq_true, false_implies]
  exact AgreeS.refl _ _)
theorem s11_fn (m a b c d e f g h : D) : s11.fn [m, a, b, c, d, e, f, g, h] = if Iv.Vd (iv a b) ∧ Iv.Vd (iv c d) ∧ Iv.Vd (iv e f) ∧ Iv.Vd (iv g h) ∧ Kn m.toInt ∧ pOk (iv a b) (iv c d) ∧ pOk (iv e f) (iv g h) then enc (Iv.Term m.toInt (iv a b) (iv c d) (iv e f) (iv g h)) ++ [.bool true] else [.int 0, .int 0, .bool false] := rfl
theorem p11 (l : List D) : s11.pre l = True := rfl
end Go.Proofs.YteaiikmijhikpaaGreatDoor
end
