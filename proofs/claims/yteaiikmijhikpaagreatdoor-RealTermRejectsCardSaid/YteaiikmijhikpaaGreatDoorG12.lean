/- The parts of this text are lemmas and contracts of functions, proved for every input that their preconditions allow; the conditions stand in each statement. -/
import Derived.Test.YteaiikmijhikpaaGreatDoorG11
set_option linter.all false
section
namespace Go.Proofs.YteaiikmijhikpaaGreatDoor
open Go Go.Sx
set_option maxRecDepth 100000

def Vd (a b : Int) : Prop := a ≤ b ∧ -17592186044416 ≤ a ∧ b ≤ 17592186044416
def Kn (m : Int) : Prop := 1 ≤ m ∧ m ≤ 12 ∧ m ≠ 7 ∧ m ≠ 8
def Pr (a b c d : Int) : Prop := max a 0 ≤ b ∧ c ≤ min d 1099511627776 ∧ max a 0 ≤ min d 1099511627776
instance (a b : Int) : Decidable (Vd a b) := inferInstanceAs (Decidable (_ ∧ _))
instance (m : Int) : Decidable (Kn m) := inferInstanceAs (Decidable (_ ∧ _))
instance (a b c d : Int) : Decidable (Pr a b c d) := inferInstanceAs (Decidable (_ ∧ _))
theorem s24_vd (a b : D) : s24.fn [a, b] = [.bool (decide (Vd a.toInt b.toInt))] := by rw [s24_val]; rfl
theorem s12_vd (a b : D) : s12.fn [a, b] = [.bool (decide (Vd a.toInt b.toInt))] := by
  have e : s12.fn [a, b] = t12.run (fnOf []) [a, b] := rfl
  rw [e]
  simp only [t12, Tr.run, T.eval, T.evals, pe_ar, pe_wrap, pe_mn, pe_mx, pe_cm, pe_not, pe_beq, pe_ite, pe_len, pe_slen, pe_sat, pe_call, fnOf, cm_eq, cm_ne, cm_lt, cm_le, cm_gt, cm_ge, ar_add, ar_sub, ar_mul, ar_quo, ar_rem, ar_shl, ar_shr, wrap_u64, wrap_i64, wrap_u8, List.getD_cons_zero, List.getD_cons_succ, D.toInt_int, D.toBool_bool, Vd]
  by_cases h1 : a.toInt ≤ b.toInt
  · by_cases h2 : -17592186044416 ≤ a.toInt
    · simp [h1, h2]
    · simp [h1, h2]
  · simp [h1]
theorem s25_val (m : D) : s25.fn [m] = [.bool (decide (Kn m.toInt))] := by
  have e : s25.fn [m] = t25.run (fnOf []) [m] := rfl
  rw [e]
  simp only [t25, Tr.run, T.eval, T.evals, pe_ar, pe_wrap, pe_mn, pe_mx, pe_cm, pe_not, pe_beq, pe_ite, pe_len, pe_slen, pe_sat, pe_call, fnOf, cm_eq, cm_ne, cm_lt, cm_le, cm_gt, cm_ge, ar_add, ar_sub, ar_mul, ar_quo, ar_rem, ar_shl, ar_shr, wrap_u64, wrap_i64, wrap_u8, List.getD_cons_zero, List.getD_cons_succ, D.toInt_int, D.toBool_bool, Kn]
  by_cases h1 : 1 ≤ m.toInt
  · by_cases h2 : m.toInt ≤ 12
    · by_cases h3 : m.toInt ≠ 7
      · simp [h1, h2, h3]
      · simp [h1, h2, h3]
    · simp [h1, h2]
  · simp [h1]
theorem s26_pr (a b c d : D) : ((s26.fn [a, b, c, d]).getD 4 default) = .bool (decide (Pr a.toInt b.toInt c.toInt d.toInt)) := by
  have e : s26.fn [a, b, c, d] = t26.run (fnOf []) [a, b, c, d] := rfl
  rw [e]
  simp only [t26, Tr.run, T.eval, T.evals, pe_ar, pe_wrap, pe_mn, pe_mx, pe_cm, pe_not, pe_beq, pe_ite, pe_len, pe_slen, pe_sat, pe_call, fnOf, cm_eq, cm_ne, cm_lt, cm_le, cm_gt, cm_ge, ar_add, ar_sub, ar_mul, ar_quo, ar_rem, ar_shl, ar_shr, wrap_u64, wrap_i64, wrap_u8, List.getD_cons_zero, List.getD_cons_succ, D.toInt_int, D.toBool_bool]
  by_cases h1 : b.toInt < max a.toInt 0
  · rw [decide_eq_true h1, decide_eq_false (show ¬ Pr a.toInt b.toInt c.toInt d.toInt by unfold Pr; omega)]; rfl
  · by_cases h2 : min d.toInt 1099511627776 < c.toInt
    · rw [decide_eq_false h1, decide_eq_true h2, decide_eq_false (show ¬ Pr a.toInt b.toInt c.toInt d.toInt by unfold Pr; omega)]; rfl
    · by_cases h3 : min d.toInt 1099511627776 < max a.toInt 0
      · rw [decide_eq_false h1, decide_eq_false h2, decide_eq_true h3, decide_eq_false (show ¬ Pr a.toInt b.toInt c.toInt d.toInt by unfold Pr; omega)]; rfl
      · rw [decide_eq_false h1, decide_eq_false h2, decide_eq_false h3, decide_eq_true (show Pr a.toInt b.toInt c.toInt d.toInt by unfold Pr; omega)]; rfl
def Tc (m s0 s1 a0 a1 d0 d1 b0 b1 : Int) : Prop := Vd s0 s1 ∧ Vd a0 a1 ∧ Vd d0 d1 ∧ Vd b0 b1 ∧ Kn m ∧ Pr s0 s1 a0 a1 ∧ Pr d0 d1 b0 b1
theorem s11_run (m s0 s1 a0 a1 d0 d1 b0 b1 : D) :
    (Tc m.toInt s0.toInt s1.toInt a0.toInt a1.toInt d0.toInt d1.toInt b0.toInt b1.toInt → ∃ x y, s11.fn [m, s0, s1, a0, a1, d0, d1, b0, b1] = [x, y, .bool true]) ∧
    (¬ Tc m.toInt s0.toInt s1.toInt a0.toInt a1.toInt d0.toInt d1.toInt b0.toInt b1.toInt → s11.fn [m, s0, s1, a0, a1, d0, d1, b0, b1] = [.int 0, .int 0, .bool false]) := by
  have e : s11.fn [m, s0, s1, a0, a1, d0, d1, b0, b1] = t11.run (fnOf [s24, s25, s26, s27, s28, s29]) [m, s0, s1, a0, a1, d0, d1, b0, b1] := rfl
  rw [e]
  simp only [t11, Tr.run, T.eval, T.evals, pe_ar, pe_wrap, pe_mn, pe_mx, pe_cm, pe_not, pe_beq, pe_ite, pe_len, pe_slen, pe_sat, pe_call, fnOf, cm_eq, cm_ne, cm_lt, cm_le, cm_gt, cm_ge, ar_add, ar_sub, ar_mul, ar_quo, ar_rem, ar_shl, ar_shr, wrap_u64, wrap_i64, wrap_u8, List.getD_cons_zero, List.getD_cons_succ, D.toInt_int, D.toBool_bool, s24_vd, s25_val, s26_pr]
  unfold Tc
  by_cases h1 : Vd s0.toInt s1.toInt
  case neg => rw [decide_eq_false h1]; exact ⟨fun h => absurd h.1 h1, fun _ => rfl⟩
  by_cases h2 : Vd a0.toInt a1.toInt
  case neg => rw [decide_eq_true h1, decide_eq_false h2]; exact ⟨fun h => absurd h.2.1 h2, fun _ => rfl⟩
  by_cases h3 : Vd d0.toInt d1.toInt
  case neg => rw [decide_eq_true h1, decide_eq_true h2, decide_eq_false h3]; exact ⟨fun h => absurd h.2.2.1 h3, fun _ => rfl⟩
  by_cases h4 : Vd b0.toInt b1.toInt
  case neg => rw [decide_eq_true h1, decide_eq_true h2, decide_eq_true h3, decide_eq_false h4]; exact ⟨fun h => absurd h.2.2.2.1 h4, fun _ => rfl⟩
  by_cases h5 : Kn m.toInt
  case neg => rw [decide_eq_true h1, decide_eq_true h2, decide_eq_true h3, decide_eq_true h4, decide_eq_false h5]; exact ⟨fun h => absurd h.2.2.2.2.1 h5, fun _ => rfl⟩
  by_cases h6 : Pr s0.toInt s1.toInt a0.toInt a1.toInt
  case neg => rw [decide_eq_true h1, decide_eq_true h2, decide_eq_true h3, decide_eq_true h4, decide_eq_true h5, decide_eq_false h6]; exact ⟨fun h => absurd h.2.2.2.2.2.1 h6, fun _ => rfl⟩
  by_cases h7 : Pr d0.toInt d1.toInt b0.toInt b1.toInt
  case neg => rw [decide_eq_true h1, decide_eq_true h2, decide_eq_true h3, decide_eq_true h4, decide_eq_true h5, decide_eq_true h6, decide_eq_false h7]; exact ⟨fun h => absurd h.2.2.2.2.2.2 h7, fun _ => rfl⟩
  rw [decide_eq_true h1, decide_eq_true h2, decide_eq_true h3, decide_eq_true h4, decide_eq_true h5, decide_eq_true h6, decide_eq_true h7]
  exact ⟨fun _ => ⟨_, _, rfl⟩, fun h => absurd ⟨h1, h2, h3, h4, h5, h6, h7⟩ h⟩
theorem tmod_bounds (a n : Int) (h : 0 < n) : -n < a.tmod n ∧ a.tmod n < n := by
  rcases Int.le_total 0 a with ha | ha
  · have := Int.tmod_nonneg n ha
    have := Int.tmod_lt_of_pos a h
    omega
  · have e : a.tmod n = -((-a).tmod n) := by rw [Int.neg_tmod]; omega
    have := Int.tmod_nonneg n (show 0 ≤ -a by omega)
    have := Int.tmod_lt_of_pos (-a) h
    omega
theorem s9_val (a : D) (n : Int) (h : 0 < n) (h2 : n < 4611686018427387904) : ∃ r : Int, s9.fn [a, .int n] = [.int r] ∧ 0 ≤ r ∧ r < n := by
  have e : s9.fn [a, .int n] = t9.run (fnOf []) [a, .int n] := rfl
  rw [e]
  simp only [t9, Tr.run, T.eval, T.evals, pe_ar, pe_wrap, pe_mn, pe_mx, pe_cm, pe_not, pe_beq, pe_ite, pe_len, pe_slen, pe_sat, pe_call, fnOf, cm_eq, cm_ne, cm_lt, cm_le, cm_gt, cm_ge, ar_add, ar_sub, ar_mul, ar_quo, ar_rem, ar_shl, ar_shr, wrap_u64, wrap_i64, wrap_u8, List.getD_cons_zero, List.getD_cons_succ, D.toInt_int, D.toBool_bool]
  rw [decide_eq_false (show ¬ n < 1 by omega)]
  refine ⟨_, rfl, ?_⟩
  obtain ⟨b1, b2⟩ := tmod_bounds a.toInt n h
  generalize a.toInt.tmod n = z at *
  rw [show (z + n + 9223372036854775808) % 18446744073709551616 - 9223372036854775808 = z + n by omega, Int.tmod_eq_emod_of_nonneg (by omega)]
  exact ⟨Int.emod_nonneg _ (by omega), Int.emod_lt_of_pos _ h⟩
theorem s10_val (a b : D) (r : Int) (h : a.toInt * (1099511627776 : Int).tdiv b.toInt = r) (h0 : 0 ≤ r) (h1 : r < 9223372036854775808) (h2 : (1099511627776 : Int).tdiv b.toInt < 9223372036854775808) (h3 : 0 ≤ (1099511627776 : Int).tdiv b.toInt) :
    s10.fn [a, b] = [.int r, .int r] := by
  have e : s10.fn [a, b] = t10.run (fnOf []) [a, b] := rfl
  rw [e]
  simp only [t10, Tr.run, T.eval, T.evals, pe_ar, pe_wrap, pe_mn, pe_mx, pe_cm, pe_not, pe_beq, pe_ite, pe_len, pe_slen, pe_sat, pe_call, fnOf, cm_eq, cm_ne, cm_lt, cm_le, cm_gt, cm_ge, ar_add, ar_sub, ar_mul, ar_quo, ar_rem, ar_shl, ar_shr, wrap_u64, wrap_i64, wrap_u8, List.getD_cons_zero, List.getD_cons_succ, D.toInt_int, D.toBool_bool]
  rw [show ((1099511627776 : Int).tdiv b.toInt + 9223372036854775808) % 18446744073709551616 - 9223372036854775808 = (1099511627776 : Int).tdiv b.toInt by omega, h]
  rw [show (r + 9223372036854775808) % 18446744073709551616 - 9223372036854775808 = r by omega]
end Go.Proofs.YteaiikmijhikpaaGreatDoor
end
