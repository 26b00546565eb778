/- The parts of this text are lemmas and contracts of functions, proved for every input that their preconditions allow; the conditions stand in each statement. -/
import Derived.Test.YteaiikmijhikpaaGreatDoorGf
import Derived.Test.YteaiikmijhikpaaGreatDoorPl
set_option linter.all false
section
namespace Go.Proofs.YteaiikmijhikpaaGreatDoor
open Go Go.Sx Bz
set_option maxRecDepth 100000

theorem p21 (l : List D) : s21.pre l = True := rfl
theorem pre10 (a b : D) : s10.pre [a, b] = (b.toInt ≠ 0) := rfl
theorem fn_false {m : D} {a b c d e f g h : D} (hm : ¬ Kn m.toInt) : s11.fn [m, a, b, c, d, e, f, g, h] = [.int 0, .int 0, .bool false] := by
  rw [s11_fn, if_neg (fun h => hm h.2.2.2.2.1)]
theorem term_top {m : Int} {S A D B : Iv.I} (h2 : Iv.In01 (Iv.pair2 S A)) (h4 : Iv.In01 (Iv.pair2 D B)) : (Iv.Term m S A D B).lo ≤ 17592186044416 ∧ (Iv.Term m S A D B).hi ≤ 17592186044416 := by
  have h := Iv.bd_mul h2.bd h4.bd
  unfold Iv.Bd at h
  unfold Iv.Term Iv.limit
  simp only
  omega
theorem btw_iff {lo hi P Q R Den w : Int} (h : 0 ≤ cx (P * 16384) (Q * 16384) R Den (max lo 0 / w) ∧ cx (P * 16384) (Q * 16384) R Den ((max hi 0 + w - 1) / w) ≤ 0) : btw lo hi P Q R Den w = true := by
  unfold btw
  rw [decide_eq_true h.1, decide_eq_true h.2]; rfl
theorem pc_vd {n : Int} (h0 : 0 ≤ n) (h : n ≤ 4096) : Iv.Vd (Iv.pc n) := by unfold Iv.Vd Iv.pc; simp only; omega
theorem pc_ok {s a : Int} (h0 : 0 ≤ s) (h1 : s ≤ a) (h2 : a ≤ 4096) : pOk (Iv.pc s) (Iv.pc a) := by unfold pOk Iv.pc; simp only; omega
theorem w64 {x : Int} (h0 : -9223372036854775808 ≤ x) (h : x < 9223372036854775808) : (x + 9223372036854775808) % 18446744073709551616 - 9223372036854775808 = x := by omega
theorem wof_dm {x : Int} (h : 0 ≤ x) : wof (.int (x / 18446744073709551616)) (.int (x % 18446744073709551616)) = x := by unfold wof; rw [D.toInt_int, D.toInt_int]; omega
/-- compositor/compositorlaw29.RealTermEncloses -/
def c7 : Con := { f := 7, ps := [.at (.int .i64), .agg [.int .i64, .int .i64, .int .i64, .int .i64]], rs := [.at (.bool)] }
def t7 : Lt :=
 (.call 0 [.v 0, .lit (.int (12))] 1
 (.call 4 [.v 1, .v 2, .lit (.int (4095))] 2
 (.call 4 [.v 3, .v 4, .lit (.int (4095))] 2
 (.call 1 [.app (.wrap .i64) [.v 6], .lit (.int (4096))] 2
 (.call 1 [.app (.wrap .i64) [.v 7], .lit (.int (4096))] 2
 (.call 1 [.app (.wrap .i64) [.v 8], .lit (.int (4096))] 2
 (.call 1 [.app (.wrap .i64) [.v 9], .lit (.int (4096))] 2
 (.call 2 [.app (.ar .add .i64) [.v 5, .lit (.int (1))], .v 10, .v 11, .v 12, .v 13, .v 14, .v 15, .v 16, .v 17] 3
 (.ask (.app (.cm .eq) [.app (.ar .add .i64) [.v 5, .lit (.int (1))], .lit (.int (7))])
  (.call 3 [] 1
  (.ask (.v 21)
   (.ask (.v 20)
    (.ret (.done [.lit (.bool false)]))
    (.ret (.done [.app .ite [.app (.cm .eq) [.v 18, .lit (.int (0))], .app .ite [.app (.cm .eq) [.v 19, .lit (.int (0))], .lit (.bool true), .lit (.bool false)], .lit (.bool false)]])))
   (.ret (.done [.lit (.bool false)]))))
  (.ask (.app (.cm .eq) [.app (.ar .add .i64) [.v 5, .lit (.int (1))], .lit (.int (8))])
   (.call 3 [] 1
   (.ask (.v 21)
    (.ask (.v 20)
     (.ret (.done [.lit (.bool false)]))
     (.ret (.done [.app .ite [.app (.cm .eq) [.v 18, .lit (.int (0))], .app .ite [.app (.cm .eq) [.v 19, .lit (.int (0))], .lit (.bool true), .lit (.bool false)], .lit (.bool false)]])))
    (.ret (.done [.lit (.bool false)]))))
   (.call 5 [.app (.ar .add .i64) [.v 5, .lit (.int (1))], .v 6, .v 7, .v 8, .v 9] 6
   (.call 3 [] 1
   (.ask (.v 27)
    (.ask (.v 20)
     (.call 6 [.v 18, .v 19, .v 21, .v 22, .v 23, .v 24, .v 25, .lit (.int (2))] 1
     (.ask (.v 28)
      (.ask (.app (.cm .eq) [.app (.ar .add .i64) [.v 5, .lit (.int (1))], .lit (.int (10))])
       (.ret (.done [.lit (.bool true)]))
       (.ret (.done [.app (.cm .le) [.app (.ar .sub .i64) [.v 19, .v 18], .lit (.int (64))]])))
      (.ret (.done [.lit (.bool false)]))))
     (.ret (.done [.lit (.bool false)])))
    (.ret (.done [.lit (.bool false)])))))))))))))))
theorem t7_eq : ((fnC (PV.fast Tryz.prog) G (([s9, s10, s11, s13, s21, s22, s23] : List Sx.Spec).map (·.con)) [] 300 c7 20).prune []).toTr = t7.expand (vars 5) := by kernel_rfl

def s7 : Sx.Spec := { con := c7, pre := fun _ => True, fn := fun _ => [.bool true] }
theorem s7_ok : s7.Ok Tryz.prog G := lspec_ok [s9, s10, s11, s13, s21, s22, s23] (by simp only [List.mem_cons, List.not_mem_nil, or_false, forall_eq_or_imp, forall_eq]; exact ⟨s9_ok, s10_ok, s11_ok, s13_ok, s21_ok, s22_ok, s23_ok⟩) s7 300 20 (fun _ h => by cases h) t7 5 t7_eq (by
  intro ds _
  obtain ⟨r, er, r0, r1⟩ := s9_val (ds.getD 0 default) 12 (by decide) (by decide)
  obtain ⟨s, a, e1, s0, sa, a1⟩ := s21_val (ds.getD 1 default) (ds.getD 2 default) 4095 (by decide) (by decide)
  obtain ⟨d, b, e2, d0, db, b1⟩ := s21_val (ds.getD 3 default) (ds.getD 4 default) 4095 (by decide) (by decide)
  have ws := w64 (x := s) (by omega) (by omega)
  have wa := w64 (x := a) (by omega) (by omega)
  have wd := w64 (x := d) (by omega) (by omega)
  have wb := w64 (x := b) (by omega) (by omega)
  have wr := w64 (x := r + 1) (by omega) (by omega)
  have fs : s10.fn [.int s, .int 4096] = [.int (s * 268435456), .int (s * 268435456)] := s10_val _ _ _ (by rw [D.toInt_int, D.toInt_int]; rfl) (by omega) (by omega) (by decide) (by decide)
  have fa : s10.fn [.int a, .int 4096] = [.int (a * 268435456), .int (a * 268435456)] := s10_val _ _ _ (by rw [D.toInt_int, D.toInt_int]; rfl) (by omega) (by omega) (by decide) (by decide)
  have fd : s10.fn [.int d, .int 4096] = [.int (d * 268435456), .int (d * 268435456)] := s10_val _ _ _ (by rw [D.toInt_int, D.toInt_int]; rfl) (by omega) (by omega) (by decide) (by decide)
  have fb : s10.fn [.int b, .int 4096] = [.int (b * 268435456), .int (b * 268435456)] := s10_val _ _ _ (by rw [D.toInt_int, D.toInt_int]; rfl) (by omega) (by omega) (by decide) (by decide)
  have hg : s7.fn ds = [.bool true] := rfl
  rw [hg]
  by_cases hm : Kn (r + 1)
  case neg =>
    have e11 : s11.fn [.int (r + 1), .int (s * 268435456), .int (s * 268435456), .int (a * 268435456), .int (a * 268435456), .int (d * 268435456), .int (d * 268435456), .int (b * 268435456), .int (b * 268435456)] = [.int 0, .int 0, .bool false] := fn_false hm
    simp only [t7, Nat.reduceAdd, Lt.holds, Lt.safe, Lt.run, Leaf.at, LeafV.Ok, envOf, resD, T.eval, T.evals, pe_ar, pe_wrap, pe_mn, pe_mx, pe_cm, pe_not, pe_beq, pe_ite, pe_len, pe_slen, pe_sat, pe_xt, pe_call, fnOf, preOf, cm_eq, cm_ne, cm_lt, cm_le, cm_gt, cm_ge, ar_add, ar_sub, ar_mul, ar_quo, ar_rem, ar_shl, ar_shr, wrap_u64, wrap_i64, wrap_u8, wrap_u16, List.getD_cons_zero, List.getD_cons_succ, List.cons_append, List.nil_append, D.toInt_int, D.toBool_bool, decide_eq_true_eq, decide_eq_false_iff_not, Bool.not_eq_true, Bool.not_eq_false, er, e1, e2, ws, wa, wd, wb, wr, fs, fa, fd, fb, e11, p9, p11, p13, p21, pre10, s13_val, true_and, true_implies, Bool.true_eq_false, Bool.false_eq_true, false_implies, and_true]
    refine ⟨by decide, by decide, by decide, by decide, fun _ => ?_, fun c => ⟨fun _ => ?_, fun c' => absurd (show Kn (r + 1) from ⟨by omega, by omega, c, c'⟩) hm⟩⟩
    · simp only [if_true]; exact AgreeS.refl _ _
    · simp only [if_true]; exact AgreeS.refl _ _
  have hp1 := pc_ok s0 sa (by omega)
  have hp2 := pc_ok d0 db (by omega)
  have k1 := pc_vd (n := s) s0 (by omega)
  have k2 := pc_vd (n := a) (by omega) (by omega)
  have k3 := pc_vd (n := d) d0 (by omega)
  have k4 := pc_vd (n := b) (by omega) (by omega)
  have e11 : s11.fn [.int (r + 1), .int (s * 268435456), .int (s * 268435456), .int (a * 268435456), .int (a * 268435456), .int (d * 268435456), .int (d * 268435456), .int (b * 268435456), .int (b * 268435456)] = [.int (Iv.Term (r + 1) (Iv.pc s) (Iv.pc a) (Iv.pc d) (Iv.pc b)).lo, .int (Iv.Term (r + 1) (Iv.pc s) (Iv.pc a) (Iv.pc d) (Iv.pc b)).hi, .bool true] := (s11_fn _ _ _ _ _ _ _ _ _).trans (if_pos ⟨k1, k2, k3, k4, hm, hp1, hp2⟩)
  have e22 : s22.fn [.int (r + 1), .int s, .int a, .int d, .int b] = [.int ((blZ (r + 1) s a d b).P / 18446744073709551616), .int ((blZ (r + 1) s a d b).P % 18446744073709551616), .int (blZ (r + 1) s a d b).Q, .int (blZ (r + 1) s a d b).R, .int (blZ (r + 1) s a d b).Den, .bool true] := rfl
  have B := bl_rng (m := r + 1) (s := s) (a := a) (d := d) (b := b) ⟨s0, sa, by omega⟩ ⟨d0, db, by omega⟩
  have Tq := term_top (m := r + 1) (S := Iv.pc s) (A := Iv.pc a) (D := Iv.pc d) (B := Iv.pc b) (hp1.p2 k2) (hp2.p2 k4)
  have bt : btw (Iv.Term (r + 1) (Iv.pc s) (Iv.pc a) (Iv.pc d) (Iv.pc b)).lo (Iv.Term (r + 1) (Iv.pc s) (Iv.pc a) (Iv.pc d) (Iv.pc b)).hi (blZ (r + 1) s a d b).P (blZ (r + 1) s a d b).Q (blZ (r + 1) s a d b).R (blZ (r + 1) s a d b).Den 4 = true := btw_iff (Iv.between_ok (N := 4096) (k := 16384) (w := 4) hm (by decide) (by decide) (by decide) (by decide) ⟨s0, sa, by omega⟩ ⟨d0, db, by omega⟩ (Iv.In_pc s) (Iv.In_pc a) (Iv.In_pc d) (Iv.In_pc b))
  have dt : r + 1 ≠ 10 → (Iv.Term (r + 1) (Iv.pc s) (Iv.pc a) (Iv.pc d) (Iv.pc b)).lo = (Iv.Term (r + 1) (Iv.pc s) (Iv.pc a) (Iv.pc d) (Iv.pc b)).hi := fun h => Iv.dot_Term hm h ⟨s0, sa, by omega⟩ ⟨d0, db, by omega⟩
  have ew := wof_dm (x := (blZ (r + 1) s a d b).P) B.1.1
  have e4 : wsh 2 = 4 := rfl
  simp only [t7, Nat.reduceAdd, Lt.holds, Lt.safe, Lt.run, Leaf.at, LeafV.Ok, envOf, resD, T.eval, T.evals, pe_ar, pe_wrap, pe_mn, pe_mx, pe_cm, pe_not, pe_beq, pe_ite, pe_len, pe_slen, pe_sat, pe_xt, pe_call, fnOf, preOf, cm_eq, cm_ne, cm_lt, cm_le, cm_gt, cm_ge, ar_add, ar_sub, ar_mul, ar_quo, ar_rem, ar_shl, ar_shr, wrap_u64, wrap_i64, wrap_u8, wrap_u16, List.getD_cons_zero, List.getD_cons_succ, List.cons_append, List.nil_append, D.toInt_int, D.toBool_bool, decide_eq_true_eq, decide_eq_false_iff_not, Bool.not_eq_true, Bool.not_eq_false, er, e1, e2, ws, wa, wd, wb, wr, fs, fa, fd, fb, e11, e22, p9, p11, p13, p21, pre10, s13_val, s22_pre, s23_fn, s23_pre, ew, e4, bt, true_and, true_implies, Bool.true_eq_false, Bool.false_eq_true, false_implies, and_true]
  refine ⟨by decide, by decide, by decide, by decide, fun c => absurd c hm.2.2.1, fun _ => ⟨fun c => absurd c hm.2.2.2, fun _ => ⟨⟨hm, ⟨s0, sa, by omega⟩, ⟨d0, db, by omega⟩⟩, ⟨Tq, by omega, by omega, by omega, by omega, by omega, Or.inl trivial⟩, fun _ => AgreeS.refl _ _, fun c => ?_⟩⟩⟩
  have hd := dt c
  rw [decide_eq_true (by omega)]
  exact AgreeS.refl _ _)
end Go.Proofs.YteaiikmijhikpaaGreatDoor
end
