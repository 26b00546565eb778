/- Contracts of 128-bit products and roots, each for every input that its precondition allows. -/
import Derived.Test.YteaiikmijhikpaaGreatDoorGa
import Derived.Test.YteaiikmijhikpaaGreatDoorSxC
import Derived.Test.YteaiikmijhikpaaGreatDoorPl
set_option linter.all false
section
namespace Go.Proofs.YteaiikmijhikpaaGreatDoor
open Go Go.Sx
set_option maxRecDepth 100000

theorem mul_parts {x y : Int} (hx0 : 0 ≤ x) (hx : x < 18446744073709551616) (hy0 : 0 ≤ y) (hy : y < 18446744073709551616) :
    x * y = x / 4294967296 * (y / 4294967296) * 18446744073709551616 + (x / 4294967296 * (y % 4294967296) + x % 4294967296 * (y / 4294967296)) * 4294967296 + x % 4294967296 * (y % 4294967296) ∧
    (0 ≤ x / 4294967296 * (y / 4294967296) ∧ x / 4294967296 * (y / 4294967296) ≤ 18446744065119617025) ∧ (0 ≤ x / 4294967296 * (y % 4294967296) ∧ x / 4294967296 * (y % 4294967296) ≤ 18446744065119617025) ∧
    (0 ≤ x % 4294967296 * (y / 4294967296) ∧ x % 4294967296 * (y / 4294967296) ≤ 18446744065119617025) ∧ 0 ≤ x % 4294967296 * (y % 4294967296) ∧ x % 4294967296 * (y % 4294967296) ≤ 18446744065119617025 := by
  have b : ∀ a b : Int, 0 ≤ a → a ≤ 4294967295 → 0 ≤ b → b ≤ 4294967295 → 0 ≤ a * b ∧ a * b ≤ 18446744065119617025 := fun a b h1 h2 h3 h4 => by
    refine ⟨Int.mul_nonneg h1 h3, ?_⟩
    have := L64.mul_le h2 h3
    omega
  refine ⟨?_, b _ _ (by omega) (by omega) (by omega) (by omega), b _ _ (by omega) (by omega) (by omega) (by omega), b _ _ (by omega) (by omega) (by omega) (by omega), b _ _ (by omega) (by omega) (by omega) (by omega)⟩
  have ex : x = x / 4294967296 * 4294967296 + x % 4294967296 := by omega
  have ey : y = y / 4294967296 * 4294967296 + y % 4294967296 := by omega
  generalize x / 4294967296 = p at *
  generalize x % 4294967296 = q at *
  generalize y / 4294967296 = r at *
  generalize y % 4294967296 = s at *
  subst ex ey
  rw [Int.add_mul, Int.mul_add, Int.mul_add]
  have e1 : p * 4294967296 * (r * 4294967296) = p * r * 18446744073709551616 := by
    rw [Int.mul_assoc p, ← Int.mul_assoc 4294967296 r, Int.mul_comm 4294967296 r, Int.mul_assoc r, ← Int.mul_assoc p]; rfl
  have e2 : p * 4294967296 * s = p * s * 4294967296 := Int.mul_right_comm _ _ _
  have e3 : q * (r * 4294967296) = q * r * 4294967296 := (Int.mul_assoc _ _ _).symm
  rw [e1, e2, e3]
  omega
theorem s166_val (a b : D) (hx0 : 0 ≤ a.toInt) (hx : a.toInt < 18446744073709551616) (hy0 : 0 ≤ b.toInt) (hy : b.toInt < 18446744073709551616) :
    s166.fn [a, b] = [.int (a.toInt * b.toInt / 18446744073709551616), .int (a.toInt * b.toInt % 18446744073709551616)] := by
  have e : s166.fn [a, b] = t166.run (fnOf []) [a, b] := rfl
  have m3 : ∀ x : Int, x.fdiv (2 ^ (min (32 : Int).toNat IntKind.u64.bits)) = x / 4294967296 := fun x => Int.fdiv_eq_ediv_of_nonneg _ (by decide)
  rw [e]
  simp only [t166, Tr.run, T.eval, T.evals, pe_ar, pe_wrap, pe_mn, pe_mx, pe_cm, pe_not, pe_beq, pe_ite, pe_len, pe_slen, pe_sat, pe_call, fnOf, cm_eq, cm_ne, cm_lt, cm_le, cm_gt, cm_ge, ar_add, ar_sub, ar_mul, ar_quo, ar_rem, ar_shl, ar_shr, wrap_u64, wrap_i64, wrap_u8, List.getD_cons_zero, List.getD_cons_succ, D.toInt_int, m3]
  obtain ⟨h, ⟨b1, c1⟩, ⟨b2, c2⟩, ⟨b3, c3⟩, b4, c4⟩ := mul_parts hx0 hx hy0 hy
  rw [mask32 hx0 hx, mask32 hy0 hy]
  generalize a.toInt * b.toInt = z at *
  generalize a.toInt / 4294967296 * (b.toInt / 4294967296) = p11 at *
  generalize a.toInt / 4294967296 * (b.toInt % 4294967296) = p10 at *
  generalize a.toInt % 4294967296 * (b.toInt / 4294967296) = p01 at *
  generalize a.toInt % 4294967296 * (b.toInt % 4294967296) = p00 at *
  rw [mask32 (by omega) (by omega)]
  congr 2
  omega
theorem s172_val (a b : D) (hx0 : 0 ≤ a.toInt) (hx : a.toInt < 18446744073709551616) (hy0 : 0 ≤ b.toInt) (hy : b.toInt < 18446744073709551616) :
    s172.fn [a, b] = [.int (a.toInt * b.toInt / 18446744073709551616), .int (a.toInt * b.toInt % 18446744073709551616)] := by
  have e : s172.fn [a, b] = t172.run (fnOf [s166]) [a, b] := rfl
  rw [e]
  simp only [t172, Tr.run, T.eval, T.evals, pe_ar, pe_wrap, pe_mn, pe_mx, pe_cm, pe_not, pe_beq, pe_ite, pe_len, pe_slen, pe_sat, pe_call, fnOf, cm_eq, cm_ne, cm_lt, cm_le, cm_gt, cm_ge, ar_add, ar_sub, ar_mul, ar_quo, ar_rem, ar_shl, ar_shr, wrap_u64, wrap_i64, wrap_u8, List.getD_cons_zero, List.getD_cons_succ, D.toInt_int, s166_val a b hx0 hx hy0 hy]
end Go.Proofs.YteaiikmijhikpaaGreatDoor
end
section
namespace Go.Proofs.YteaiikmijhikpaaGreatDoor
open Go Go.Sx
set_option maxRecDepth 100000

theorem s209_val (a b : D) : s209.fn [a, b] = [.int (if a.toInt < b.toInt then -1 else if b.toInt < a.toInt then 1 else 0)] := by
  have e : s209.fn [a, b] = t209.run (fnOf []) [a, b] := rfl
  rw [e]
  simp only [t209, Tr.run, T.eval, T.evals, pe_ar, pe_wrap, pe_mn, pe_mx, pe_cm, pe_not, pe_beq, pe_ite, pe_len, pe_slen, pe_sat, pe_call, fnOf, cm_eq, cm_ne, cm_lt, cm_le, cm_gt, cm_ge, ar_add, ar_sub, ar_mul, ar_quo, ar_rem, ar_shl, ar_shr, wrap_u64, wrap_i64, wrap_u8, List.getD_cons_zero, List.getD_cons_succ, D.toInt_int, D.toBool_bool]
  by_cases h1 : a.toInt < b.toInt
  · simp [h1]
  · by_cases h2 : b.toInt < a.toInt
    · simp [h1, h2]
    · simp [h1, h2]
theorem s174_val (a b c d : D) (hb0 : 0 ≤ b.toInt) (hb : b.toInt < 18446744073709551616) (hd0 : 0 ≤ d.toInt) (hd : d.toInt < 18446744073709551616) :
    s174.fn [a, b, c, d] = [.int (if a.toInt * 18446744073709551616 + b.toInt < c.toInt * 18446744073709551616 + d.toInt then -1 else if c.toInt * 18446744073709551616 + d.toInt < a.toInt * 18446744073709551616 + b.toInt then 1 else 0)] := by
  have e : s174.fn [a, b, c, d] = t174.run (fnOf [s209]) [a, b, c, d] := rfl
  rw [e]
  simp only [t174, Tr.run, T.eval, T.evals, pe_ar, pe_wrap, pe_mn, pe_mx, pe_cm, pe_not, pe_beq, pe_ite, pe_len, pe_slen, pe_sat, pe_call, fnOf, cm_eq, cm_ne, cm_lt, cm_le, cm_gt, cm_ge, ar_add, ar_sub, ar_mul, ar_quo, ar_rem, ar_shl, ar_shr, wrap_u64, wrap_i64, wrap_u8, List.getD_cons_zero, List.getD_cons_succ, D.toInt_int, D.toBool_bool, s209_val]
  generalize a.toInt = a at *
  generalize b.toInt = b at *
  generalize c.toInt = c at *
  generalize d.toInt = d at *
  rcases Int.lt_trichotomy a c with h | h | h
  · rw [if_pos h, if_pos (show a * 18446744073709551616 + b < c * 18446744073709551616 + d by omega)]; rfl
  · subst h
    rw [if_neg (Int.lt_irrefl a), if_neg (Int.lt_irrefl a)]
    rcases Int.lt_trichotomy b d with h | h | h
    · rw [if_pos h, if_pos (show a * 18446744073709551616 + b < a * 18446744073709551616 + d by omega)]; rfl
    · subst h
      simp
    · rw [if_neg (show ¬ b < d by omega), if_pos h, if_neg (show ¬ a * 18446744073709551616 + b < a * 18446744073709551616 + d by omega), if_pos (show a * 18446744073709551616 + d < a * 18446744073709551616 + b by omega)]; rfl
  · rw [if_neg (show ¬ a < c by omega), if_pos h, if_neg (show ¬ a * 18446744073709551616 + b < c * 18446744073709551616 + d by omega), if_pos (show c * 18446744073709551616 + d < a * 18446744073709551616 + b by omega)]; rfl

/-- The root, bit by bit. -/
def isqGo : Nat → Nat → Nat → Nat
  | 0, x, _ => x
  | k + 1, x, n => if (x + 2 ^ k) * (x + 2 ^ k) ≤ n then isqGo k (x + 2 ^ k) n else isqGo k x n
def isq (n : Nat) : Nat := isqGo 64 0 n
theorem isqGo_spec : ∀ (k x n : Nat), x * x ≤ n → n < (x + 2 ^ k) * (x + 2 ^ k) → isqGo k x n * isqGo k x n ≤ n ∧ n < (isqGo k x n + 1) * (isqGo k x n + 1)
  | 0, x, n, h1, h2 => ⟨h1, by simpa [isqGo] using h2⟩
  | k + 1, x, n, h1, h2 => by
    simp only [isqGo]
    split
    · rename_i h
      exact isqGo_spec k _ n h (by rw [Nat.pow_succ] at h2; rw [show x + 2 ^ k + 2 ^ k = x + 2 ^ k * 2 from by omega]; exact h2)
    · rename_i h
      exact isqGo_spec k _ n h1 (by omega)
theorem isq_spec {n : Nat} (h : n < 340282366920938463463374607431768211456) : isq n * isq n ≤ n ∧ n < (isq n + 1) * (isq n + 1) :=
  isqGo_spec 64 0 n (by omega) (by simpa using h)
theorem isq_only {n r : Nat} (h : n < 340282366920938463463374607431768211456) (h1 : r * r ≤ n) (h2 : n < (r + 1) * (r + 1)) : r = isq n := by
  obtain ⟨g1, g2⟩ := isq_spec h
  rcases Nat.lt_trichotomy r (isq n) with h' | h' | h'
  · have := Nat.mul_le_mul (show r + 1 ≤ isq n by omega) (show r + 1 ≤ isq n by omega); omega
  · exact h'
  · have := Nat.mul_le_mul (show isq n + 1 ≤ r by omega) (show isq n + 1 ≤ r by omega); omega
/-- compositor/wide.Sqrt -/
def c173 : Con := { f := 173, ps := [.agg [.int .u64, .int .u64]], rs := [.at (.int .u64)] }
def p173_3 : Tmpl := tmplOf 23 [(1, .ptr 0 0), (3, .int .u64 (.v 0)), (4, .int .u64 (.v 0))] [(0, .cells [.int .u64 (.v 0), .int .u64 (.v 0)] 62)] 1
noncomputable def t173 : Tr Leaf :=
 (.ret (.cut 0 (todoOf (PV.fast Tryz.prog) 173 3) [.lit (.int (0)), .lit (.int (9223372036854775808)), .v 0, .v 1]))
theorem t173_eq : ((fnC (PV.fast Tryz.prog) G (([s172, s174] : List Sx.Spec).map (·.con)) [⟨3, p173_3⟩] 300 c173 20).prune []).toTr = t173 := by kernel_rfl
noncomputable def t173_3 : Tr Leaf :=
 (.ask (.app (.cm .gt) [.v 1, .lit (.int (0))])
  (.pre 0 [.app (.ar .or .u64) [.v 0, .v 1], .app (.ar .or .u64) [.v 0, .v 1]]
  (.pre 1 [.app (.call 0 0) [.app (.ar .or .u64) [.v 0, .v 1], .app (.ar .or .u64) [.v 0, .v 1]], .app (.call 0 1) [.app (.ar .or .u64) [.v 0, .v 1], .app (.ar .or .u64) [.v 0, .v 1]], .v 2, .v 3]
  (.ask (.app (.cm .le) [.app (.call 1 0) [.app (.call 0 0) [.app (.ar .or .u64) [.v 0, .v 1], .app (.ar .or .u64) [.v 0, .v 1]], .app (.call 0 1) [.app (.ar .or .u64) [.v 0, .v 1], .app (.ar .or .u64) [.v 0, .v 1]], .v 2, .v 3], .lit (.int (0))])
   (.ret (.cut 0 (todoOf (PV.fast Tryz.prog) 173 3) [.app (.ar .or .u64) [.v 0, .v 1], .app (.ar .shr .u64) [.v 1, .lit (.int (1))], .v 2, .v 3]))
   (.ret (.cut 0 (todoOf (PV.fast Tryz.prog) 173 3) [.v 0, .app (.ar .shr .u64) [.v 1, .lit (.int (1))], .v 2, .v 3])))))
  (.ret (.done [.v 0])))
theorem t173_3_eq : ((tlC (PV.fast Tryz.prog) G (([s172, s174] : List Sx.Spec).map (·.con)) [⟨3, p173_3⟩] 300 c173 20 p173_3 3).prune []).toTr = t173_3 := by kernel_rfl

def wN (a b : D) : Nat := (a.toInt * 18446744073709551616 + b.toInt).toNat
def sqF (ds : List D) : List D := [.int (isq (wN (ds.getD 0 default) (ds.getD 1 default)))]
def s173 : Sx.Spec where
  con := { c173 with fold := some sqF }
  pre ds := (0 ≤ (ds.getD 0 default).toInt ∧ (ds.getD 0 default).toInt < 18446744073709551616) ∧ 0 ≤ (ds.getD 1 default).toInt ∧ (ds.getD 1 default).toInt < 18446744073709551616
  fn := sqF
def e173_3 : Tail where
  id := 3
  τ := p173_3
  pre ds := ((0 ≤ (ds.getD 2 default).toInt ∧ (ds.getD 2 default).toInt < 18446744073709551616) ∧ 0 ≤ (ds.getD 3 default).toInt ∧ (ds.getD 3 default).toInt < 18446744073709551616) ∧
    ∃ k z : Nat, k ≤ 64 ∧ (ds.getD 1 default).toInt = ((2 ^ k / 2 : Nat) : Int) ∧ (ds.getD 0 default).toInt = ((z * 2 ^ k : Nat) : Int) ∧ (z + 1) * 2 ^ k ≤ 18446744073709551616 ∧
      z * 2 ^ k * (z * 2 ^ k) ≤ wN (ds.getD 2 default) (ds.getD 3 default) ∧ wN (ds.getD 2 default) (ds.getD 3 default) < (z * 2 ^ k + 2 ^ k) * (z * 2 ^ k + 2 ^ k)
  fn ds := [.int (isq (wN (ds.getD 2 default) (ds.getD 3 default)))]
  meas ds := (ds.getD 1 default).toInt.toNat
theorem v173_3 (ds : List D) (h : e173_3.pre ds) : t173_3.holds (fnOf [s172, s174]) (preOf [s172, s174]) ds (Leaf.Ok (PV.fast Tryz.prog) c173 [e173_3] (fnOf [s172, s174]) ds (e173_3.fn ds) (· < e173_3.meas ds)) := by
  obtain ⟨⟨⟨ha0, ha⟩, hb0, hb⟩, k, z, hk, hbit, hx, hz, h1, h2⟩ := h
  have hm : e173_3.meas ds = (ds.getD 1 default).toInt.toNat := rfl
  have hg : e173_3.fn ds = [.int (isq (wN (ds.getD 2 default) (ds.getD 3 default)))] := rfl
  have hN : (wN (ds.getD 2 default) (ds.getD 3 default) : Int) = (ds.getD 2 default).toInt * 18446744073709551616 + (ds.getD 3 default).toInt := Int.toNat_of_nonneg (by omega)
  have hN2 : wN (ds.getD 2 default) (ds.getD 3 default) < 340282366920938463463374607431768211456 := by omega
  have m1 : ∀ x : Int, x.fdiv (2 ^ (min (1 : Int).toNat IntKind.u64.bits)) = x / 2 := fun x => Int.fdiv_eq_ediv_of_nonneg _ (by decide)
  rw [hm, hg]
  generalize hn : wN (ds.getD 2 default) (ds.getD 3 default) = n at *
  simp only [t173_3, Tr.holds, T.eval, T.evals, pe_ar, pe_wrap, pe_mn, pe_mx, pe_cm, pe_not, pe_beq, pe_ite, pe_len, pe_slen, pe_sat, pe_call, fnOf, cm_eq, cm_ne, cm_lt, cm_le, cm_gt, cm_ge, ar_add, ar_sub, ar_mul, ar_quo, ar_rem, ar_shl, ar_shr, wrap_u64, wrap_i64, wrap_u8, D.toInt_int, D.toBool_bool, decide_eq_true_eq, decide_eq_false_iff_not, Leaf.Ok, m1]
  refine ⟨fun c => ⟨trivial, trivial, ?_⟩, fun c => ⟨?_, trivial⟩⟩
  · -- a bit more
    cases k with
    | zero => rw [show (2 : Nat) ^ 0 / 2 = 0 from rfl] at hbit; omega
    | succ k =>
      have e2 : (2 : Nat) ^ (k + 1) = 2 ^ k * 2 := Nat.pow_succ _ _
      have hp : 0 < 2 ^ k := Nat.pow_pos (by omega)
      rw [e2, Nat.mul_div_cancel _ (by omega)] at hbit
      have ez : z * (2 ^ k * 2) = z * 2 * 2 ^ k := by rw [Nat.mul_comm (2 ^ k) 2, Nat.mul_assoc]
      have ez1 : (z + 1) * (2 ^ k * 2) = z * 2 * 2 ^ k + 2 ^ k * 2 := by rw [Nat.add_mul, Nat.one_mul, ez]
      rw [e2] at hx h1 h2 hz
      rw [ez1] at hz
      rw [ez] at hx h1 h2
      have hor : Ar.eval .or .u64 (ds.getD 0 default).toInt (ds.getD 1 default).toInt = ((z * 2 * 2 ^ k + 2 ^ k : Nat) : Int) := by
        have := or_shift (a := (z : Int)) (b := ((2 ^ k : Nat) : Int)) (s := k + 1) (by omega) (by omega) (by
          have : ((2 ^ (k + 1) : Nat) : Int) = (2 : Int) ^ (k + 1) := by simp
          rw [← this]; omega) (by
          have : ((z * 2 ^ (k + 1) : Nat) : Int) = (z : Int) * 2 ^ (k + 1) := by simp
          rw [← this, e2, ez]; omega) (by omega)
        have e3 : ((z * 2 ^ (k + 1) : Nat) : Int) = (z : Int) * 2 ^ (k + 1) := by simp
        rw [← e3, e2, ez] at this
        rw [hx, hbit, this]; omega
      rw [hor]
      generalize hX : z * 2 * 2 ^ k + 2 ^ k = X at *
      have hXlt : X < 18446744073709551616 := by omega
      have hz1 : (z * 2 + 1) * 2 ^ k = X := by rw [Nat.add_mul, Nat.one_mul, hX]
      have v := s172_val (.int (X : Int)) (.int (X : Int)) (by rw [D.toInt_int]; omega) (by rw [D.toInt_int]; omega) (by rw [D.toInt_int]; omega) (by rw [D.toInt_int]; omega)
      simp only [D.toInt_int] at v
      rw [v]
      simp only [List.getD_cons_zero, List.getD_cons_succ]
      have hXX : ((X * X : Nat) : Int) = (X : Int) * X := Int.natCast_mul _ _
      have v2 := s174_val (.int ((X : Int) * X / 18446744073709551616)) (.int ((X : Int) * X % 18446744073709551616)) (ds.getD 2 default) (ds.getD 3 default) (by rw [D.toInt_int]; omega) (by rw [D.toInt_int]; omega) hb0 hb
      simp only [D.toInt_int] at v2
      rw [v2]
      simp only [List.getD_cons_zero, D.toInt_int]
      rw [show (X : Int) * X / 18446744073709551616 * 18446744073709551616 + (X : Int) * X % 18446744073709551616 = ((X * X : Nat) : Int) by rw [hXX]; omega, ← hN]
      have hhalf : ((ds.getD 1 default).toInt / 2) = ((2 ^ k / 2 : Nat) : Int) := by rw [hbit]; omega
      have hmeas : ((2 ^ k / 2 : Nat) : Int).toNat < (ds.getD 1 default).toInt.toNat := by rw [hbit]; omega
      refine ⟨fun c2 => ⟨e173_3, rfl, rfl, ⟨⟨⟨ha0, ha⟩, hb0, hb⟩, k, z * 2 + 1, by omega, hhalf, ?_, ?_, ?_, ?_⟩, ?_, ?_⟩, fun c2 => ⟨e173_3, rfl, rfl, ⟨⟨⟨ha0, ha⟩, hb0, hb⟩, k, z * 2, by omega, hhalf, hx, ?_, ?_, ?_⟩, ?_, ?_⟩⟩
      · show (X : Int) = _
        rw [hz1]
      · rw [Nat.add_mul, Nat.one_mul, hz1]; omega
      · show _ ≤ wN (ds.getD 2 default) (ds.getD 3 default)
        rw [hz1, hn]
        split at c2
        · omega
        · split at c2 <;> omega
      · show wN (ds.getD 2 default) (ds.getD 3 default) < _
        rw [hz1, hn, show X + 2 ^ k = z * 2 * 2 ^ k + 2 ^ k * 2 from by omega]
        exact h2
      · show ((ds.getD 1 default).toInt / 2).toNat < _
        rw [hhalf]; exact hmeas
      · show AgreeS c173.rs [.int (isq (wN (ds.getD 2 default) (ds.getD 3 default)))] _
        rw [hn]; exact AgreeS.refl _ _
      · rw [Nat.add_mul, Nat.one_mul]; omega
      · show _ ≤ wN (ds.getD 2 default) (ds.getD 3 default)
        rw [hn]; exact h1
      · show wN (ds.getD 2 default) (ds.getD 3 default) < _
        rw [hn, hX]
        split at c2
        · omega
        · split at c2 <;> omega
      · show ((ds.getD 1 default).toInt / 2).toNat < _
        rw [hhalf]; exact hmeas
      · show AgreeS c173.rs [.int (isq (wN (ds.getD 2 default) (ds.getD 3 default)))] _
        rw [hn]; exact AgreeS.refl _ _
  · -- the end
    have hk0 : k = 0 := by
      cases k with
      | zero => rfl
      | succ k =>
        have hp : 0 < 2 ^ k := Nat.pow_pos (by omega)
        rw [Nat.pow_succ, Nat.mul_div_cancel _ (by omega)] at hbit
        omega
    subst hk0
    simp only [Nat.pow_zero, Nat.mul_one] at hx h1 h2
    simp only [List.headD_cons, Agree, D.toInt_int]
    rw [hx, isq_only hN2 h1 h2]
theorem v173 (ds : List D) (h : s173.pre ds) : t173.holds (fnOf [s172, s174]) (preOf [s172, s174]) ds (Leaf.Ok (PV.fast Tryz.prog) c173 [e173_3] (fnOf [s172, s174]) ds (s173.fn ds) (fun _ => True)) := by
  obtain ⟨⟨ha0, ha⟩, hb0, hb⟩ := h
  have hN : (wN (ds.getD 0 default) (ds.getD 1 default) : Int) = (ds.getD 0 default).toInt * 18446744073709551616 + (ds.getD 1 default).toInt := Int.toNat_of_nonneg (by omega)
  refine ⟨e173_3, rfl, rfl, ⟨⟨⟨ha0, ha⟩, hb0, hb⟩, 64, 0, by omega, by show (9223372036854775808 : Int) = _; decide, by show (0 : Int) = _; simp, by decide, by omega, ?_⟩, trivial, AgreeS.refl _ _⟩
  show wN (ds.getD 0 default) (ds.getD 1 default) < _
  have : (0 * 2 ^ 64 + 2 ^ 64) * (0 * 2 ^ 64 + 2 ^ 64) = 340282366920938463463374607431768211456 := by decide
  rw [this]; omega
theorem s173_ok : s173.Ok Tryz.prog G := by
  refine spec_cut [s172, s174] (by simp only [List.mem_cons, List.not_mem_nil, or_false, forall_eq_or_imp, forall_eq]; exact ⟨s172_ok, s174_ok⟩) s173 [e173_3] 300 20 (fun g hg ds _ => by simp only [s173, Option.some.injEq] at hg ⊢; rw [hg]) ?_ t173 t173_eq v173
  intro t ht
  simp only [List.mem_cons, List.not_mem_nil, or_false] at ht
  subst ht
  exact ⟨t173_3, t173_3_eq, v173_3⟩
end Go.Proofs.YteaiikmijhikpaaGreatDoor
end
section
namespace Go.Proofs.YteaiikmijhikpaaGreatDoor
open Go Go.Sx Bz
set_option maxRecDepth 100000

theorem pe_xt (F : Fns) (o : Xt) (x y c : D) : Prim.eval F (.xt o) [x, y, c] = .int (o.eval x.toInt y.toInt c.toInt) := id rfl
def Kn (m : Int) : Prop := 1 ≤ m ∧ m ≤ 12 ∧ m ≠ 7 ∧ m ≠ 8
instance (m : Int) : Decidable (Kn m) := inferInstanceAs (Decidable (_ ∧ _))
theorem s25_val (m : D) : s25.fn [m] = [.bool (decide (Kn m.toInt))] := by
  have e : s25.fn [m] = t25.run (fnOf []) [m] := rfl
  rw [e]
  simp only [t25, Tr.run, T.eval, T.evals, pe_ar, pe_wrap, pe_mn, pe_mx, pe_cm, pe_not, pe_beq, pe_ite, pe_len, pe_slen, pe_sat, pe_call, fnOf, cm_eq, cm_ne, cm_lt, cm_le, cm_gt, cm_ge, ar_add, ar_sub, ar_mul, ar_quo, ar_rem, ar_shl, ar_shr, wrap_u64, wrap_i64, wrap_u8, List.getD_cons_zero, List.getD_cons_succ, D.toInt_int, D.toBool_bool, Kn]
  by_cases h1 : 1 ≤ m.toInt
  · by_cases h2 : m.toInt ≤ 12
    · by_cases h3 : m.toInt ≠ 7
      · simp [h1, h2, h3]
      · simp [h1, h2, h3]
    · simp [h1, h2]
  · simp [h1]
theorem tmod_bounds (a n : Int) (h : 0 < n) : -n < a.tmod n ∧ a.tmod n < n := by
  rcases Int.le_total 0 a with ha | ha
  · have := Int.tmod_nonneg n ha
    have := Int.tmod_lt_of_pos a h
    omega
  · have e : a.tmod n = -((-a).tmod n) := by rw [Int.neg_tmod]; omega
    have := Int.tmod_nonneg n (show 0 ≤ -a by omega)
    have := Int.tmod_lt_of_pos (-a) h
    omega
theorem s9_val (a : D) (n : Int) (h : 0 < n) (h2 : n < 4611686018427387904) : ∃ r : Int, s9.fn [a, .int n] = [.int r] ∧ 0 ≤ r ∧ r < n := by
  have e : s9.fn [a, .int n] = t9.run (fnOf []) [a, .int n] := rfl
  rw [e]
  simp only [t9, Tr.run, T.eval, T.evals, pe_ar, pe_wrap, pe_mn, pe_mx, pe_cm, pe_not, pe_beq, pe_ite, pe_len, pe_slen, pe_sat, pe_call, fnOf, cm_eq, cm_ne, cm_lt, cm_le, cm_gt, cm_ge, ar_add, ar_sub, ar_mul, ar_quo, ar_rem, ar_shl, ar_shr, wrap_u64, wrap_i64, wrap_u8, List.getD_cons_zero, List.getD_cons_succ, D.toInt_int, D.toBool_bool]
  rw [decide_eq_false (show ¬ n < 1 by omega)]
  refine ⟨_, rfl, ?_⟩
  obtain ⟨b1, b2⟩ := tmod_bounds a.toInt n h
  generalize a.toInt.tmod n = z at *
  rw [show (z + n + 9223372036854775808) % 18446744073709551616 - 9223372036854775808 = z + n by omega, Int.tmod_eq_emod_of_nonneg (by omega)]
  exact ⟨Int.emod_nonneg _ (by omega), Int.emod_lt_of_pos _ h⟩
theorem s10_val (a b : D) (r : Int) (h : a.toInt * (1099511627776 : Int).tdiv b.toInt = r) (h0 : 0 ≤ r) (h1 : r < 9223372036854775808) (h2 : (1099511627776 : Int).tdiv b.toInt < 9223372036854775808) (h3 : 0 ≤ (1099511627776 : Int).tdiv b.toInt) :
    s10.fn [a, b] = [.int r, .int r] := by
  have e : s10.fn [a, b] = t10.run (fnOf []) [a, b] := rfl
  rw [e]
  simp only [t10, Tr.run, T.eval, T.evals, pe_ar, pe_wrap, pe_mn, pe_mx, pe_cm, pe_not, pe_beq, pe_ite, pe_len, pe_slen, pe_sat, pe_call, fnOf, cm_eq, cm_ne, cm_lt, cm_le, cm_gt, cm_ge, ar_add, ar_sub, ar_mul, ar_quo, ar_rem, ar_shl, ar_shr, wrap_u64, wrap_i64, wrap_u8, List.getD_cons_zero, List.getD_cons_succ, D.toInt_int, D.toBool_bool]
  rw [show ((1099511627776 : Int).tdiv b.toInt + 9223372036854775808) % 18446744073709551616 - 9223372036854775808 = (1099511627776 : Int).tdiv b.toInt by omega, h]
  rw [show (r + 9223372036854775808) % 18446744073709551616 - 9223372036854775808 = r by omega]
theorem p9 (l : List D) : s9.pre l = True := rfl
end Go.Proofs.YteaiikmijhikpaaGreatDoor
end
