/- The parts of this text are lemmas and contracts of functions, proved for every input that their preconditions allow; the conditions stand in each statement. -/
import Derived.Test.YteaiikmijhikpaaGreatDoorG13
set_option linter.all false
section
namespace Go.Proofs.YteaiikmijhikpaaGreatDoor
open Go Go.Sx
set_option maxRecDepth 100000

theorem v3 (ds : List D) : t3.holds (fnOf [s9, s10, s11, s12, s13]) (preOf [s9, s10, s11, s12, s13]) ds (Leaf.Ok (PV.fast Tryz.prog) c3 [] (fnOf [s9, s10, s11, s12, s13]) ds [.bool true] (fun _ => True)) := by
  obtain ⟨r1, e1, b1, b1'⟩ := s9_val (ds.getD 0 default) 12 (by omega) (by omega)
  obtain ⟨r2, e2, b2, b2'⟩ := s9_val (ds.getD 1 default) 1000 (by omega) (by omega)
  obtain ⟨r3, e3, b3, b3'⟩ := s9_val (ds.getD 1 default) 9 (by omega) (by omega)
  have w1 : (1 + r1 + 9223372036854775808) % 18446744073709551616 - 9223372036854775808 = 1 + r1 := by omega
  have w2 : (13 + r3 + 9223372036854775808) % 18446744073709551616 - 9223372036854775808 = 13 + r3 := by omega
  have w3 : (1 + r2 + 9223372036854775808) % 18446744073709551616 - 9223372036854775808 = 1 + r2 := by omega
  have w4 : (0 - (1 + r2) + 9223372036854775808) % 18446744073709551616 - 9223372036854775808 = 0 - (1 + r2) := by omega
  have w5 : (0 - (1 + r2) - 1 + 9223372036854775808) % 18446744073709551616 - 9223372036854775808 = 0 - (1 + r2) - 1 := by omega
  have w6 : (1099511627776 + (1 + r2) + 9223372036854775808) % 18446744073709551616 - 9223372036854775808 = 1099511627776 + (1 + r2) := by omega
  have ru := tc_rej (.int (13 + r3)) (.int 274877906944) (.int 274877906944) (.int 549755813888) (.int 549755813888) (.int 274877906944) (.int 274877906944) (.int 549755813888) (.int 549755813888) (by simp only [D.toInt_int, Tc, Vd, Kn, Pr]; omega)
  have rv := fun m : Int => tc_rej (.int m) (.int 549755813888) (.int 549755813888) (.int 274877906944) (.int 274877906944) (.int 274877906944) (.int 274877906944) (.int 549755813888) (.int 549755813888) (by simp only [D.toInt_int, Tc, Vd, Kn, Pr]; omega)
  have rw' := fun m : Int => tc_rej (.int m) (.int 274877906944) (.int 274877906944) (.int 549755813888) (.int 549755813888) (.int 1099511627776) (.int 1099511627776) (.int 549755813888) (.int 549755813888) (by simp only [D.toInt_int, Tc, Vd, Kn, Pr]; omega)
  have rx := fun m : Int => tc_rej (.int m) (.int (0 - (1 + r2) - 1)) (.int (0 - (1 + r2))) (.int 549755813888) (.int 549755813888) (.int 274877906944) (.int 274877906944) (.int 549755813888) (.int 549755813888) (by simp only [D.toInt_int, Tc, Vd, Kn, Pr]; omega)
  have ry := fun m : Int => tc_rej (.int m) (.int 274877906944) (.int 274877906944) (.int 549755813888) (.int 549755813888) (.int 274877906944) (.int 274877906944) (.int (1099511627776 + (1 + r2))) (.int (1099511627776 + (1 + r2))) (by simp only [D.toInt_int, Tc, Vd, Kn, Pr]; omega)
  have rz := fun m : Int => tc_rej (.int m) (.int 5) (.int 4) (.int 549755813888) (.int 549755813888) (.int 274877906944) (.int 274877906944) (.int 549755813888) (.int 549755813888) (by simp only [D.toInt_int, Tc, Vd, Kn, Pr]; omega)
  have rt := fun m : Int => s11_run (.int m) (.int 274877906944) (.int 274877906944) (.int 549755813888) (.int 549755813888) (.int 274877906944) (.int 274877906944) (ds.getD 2 default) (ds.getD 3 default)
  have hw : s13.fn [] = [.bool true] := rfl
  have hp9 : ∀ l, s9.pre l = True := fun _ => rfl
  have hp10 : ∀ l, s10.pre l = ((l.getD 1 default).toInt ≠ 0) := fun _ => rfl
  have hp11 : ∀ l, s11.pre l = True := fun _ => rfl
  have hp12 : ∀ l, s12.pre l = True := fun _ => rfl
  have hp13 : ∀ l, s13.pre l = True := fun _ => rfl
  have hv := s12_vd (ds.getD 2 default) (ds.getD 3 default)
  simp only [D.toInt_int] at rt
  simp only [t3, Tr.holds, T.eval, T.evals, pe_ar, pe_wrap, pe_mn, pe_mx, pe_cm, pe_not, pe_beq, pe_ite, pe_call, fnOf, e1, e2, e3, List.getD_cons_zero, List.getD_cons_succ, D.toInt_int, D.toBool_bool, ar_add, ar_sub, wrap_i64, w1, w2, w3, w4, w5, w6,
    ru, rv, rw', rx, ry, rz, hw, hv, cm_eq, cm_ne, cm_lt, cm_le, cm_gt, cm_ge, decide_eq_true_eq, decide_eq_false_iff_not, preOf, hp9, hp10, hp11, hp12, hp13, Bool.false_eq_true, false_implies, true_implies, true_and, and_true, Leaf.Ok]
  have key : ∀ m : Int, Kn m → (Vd (ds.getD 2 default).toInt (ds.getD 3 default).toInt ∧ 274877906944 ≤ (ds.getD 3 default).toInt ∧ (ds.getD 2 default).toInt ≤ 1099511627776 →
      ∃ x y, s11.fn [.int m, .int 274877906944, .int 274877906944, .int 549755813888, .int 549755813888, .int 274877906944, .int 274877906944, ds.getD 2 default, ds.getD 3 default] = [x, y, .bool true]) ∧
      (¬ (Vd (ds.getD 2 default).toInt (ds.getD 3 default).toInt ∧ 274877906944 ≤ (ds.getD 3 default).toInt ∧ (ds.getD 2 default).toInt ≤ 1099511627776) →
      s11.fn [.int m, .int 274877906944, .int 274877906944, .int 549755813888, .int 549755813888, .int 274877906944, .int 274877906944, ds.getD 2 default, ds.getD 3 default] = [.int 0, .int 0, .bool false]) := fun m hm => by
    refine ⟨fun h => (rt m).1 ?_, fun h => (rt m).2 (fun hc => h ?_)⟩
    · refine ⟨by unfold Vd; omega, by unfold Vd; omega, by unfold Vd; omega, h.1, hm, by unfold Pr; omega, ?_⟩
      have := h.1; unfold Vd at this; unfold Pr; omega
    · refine ⟨hc.2.2.2.1, ?_⟩
      have := hc.2.2.2.2.2.2; unfold Pr at this; omega
  have k1 : Kn 1 := by unfold Kn; omega
  have k2 : 1 + r1 ≠ 7 → 1 + r1 ≠ 8 → Kn (1 + r1) := fun a b => by unfold Kn; omega
  clear rt ru rv rw' rx ry rz e1 e2 e3 hv
  generalize ds.getD 2 default = p0 at *
  generalize ds.getD 3 default = p1 at *
  by_cases hp : Vd p0.toInt p1.toInt ∧ 274877906944 ≤ p1.toInt ∧ p0.toInt ≤ 1099511627776
  · obtain ⟨x1, y1, h1⟩ := (key 1 k1).1 hp
    obtain ⟨q1, q2, q3⟩ := hp
    by_cases c7 : 1 + r1 = 7
    · simp [h1, q1, q2, q3, c7, AgreeS, Agree, c3]
    · by_cases c8 : 1 + r1 = 8
      · simp [h1, q1, q2, q3, c8, AgreeS, Agree, c3]
      · obtain ⟨x2, y2, h2⟩ := (key (1 + r1) (k2 c7 c8)).1 ⟨q1, q2, q3⟩
        simp [h2, q1, q2, q3, c7, c8, AgreeS, Agree, c3]
  · have h1 := (key 1 k1).2 hp
    have h2 := fun a b => (key (1 + r1) (k2 a b)).2 hp
    by_cases qa : Vd p0.toInt p1.toInt
    · by_cases qb : 274877906944 ≤ p1.toInt
      · have qc : ¬ p0.toInt ≤ 1099511627776 := fun c => hp ⟨qa, qb, c⟩
        by_cases c7 : 1 + r1 = 7
        · simp [h1, qa, qb, qc, c7, AgreeS, Agree, c3]
        · by_cases c8 : 1 + r1 = 8
          · simp [h1, qa, qb, qc, c8, AgreeS, Agree, c3]
          · simp [h2 c7 c8, qa, qb, qc, c7, c8, AgreeS, Agree, c3]
      · by_cases c7 : 1 + r1 = 7
        · simp [h1, qa, qb, c7, AgreeS, Agree, c3]
        · by_cases c8 : 1 + r1 = 8
          · simp [h1, qa, qb, c8, AgreeS, Agree, c3]
          · simp [h2 c7 c8, qa, qb, c7, c8, AgreeS, Agree, c3]
    · by_cases c7 : 1 + r1 = 7
      · simp [h1, qa, c7, AgreeS, Agree, c3]
      · by_cases c8 : 1 + r1 = 8
        · simp [h1, qa, c8, AgreeS, Agree, c3]
        · simp [h2 c7 c8, qa, c7, c8, AgreeS, Agree, c3]
theorem s3_ok : s3.Ok Tryz.prog G :=
  spec_ok [s9, s10, s11, s12, s13] (by simp only [List.mem_cons, List.not_mem_nil, or_false, forall_eq_or_imp, forall_eq]; exact ⟨s9_ok, s10_ok, s11_ok, s12_ok, s13_ok⟩) s3 300 20 (fun g hg => by cases hg) t3 t3_eq (fun ds _ => v3 ds)
end Go.Proofs.YteaiikmijhikpaaGreatDoor
end
