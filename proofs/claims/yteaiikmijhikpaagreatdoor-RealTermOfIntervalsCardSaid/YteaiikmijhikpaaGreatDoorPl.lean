/- The arithmetic of intervals and of the exact blend terms, without the program: an interval's term encloses the exact term of its elements. -/
import Init
set_option linter.all false
section
/- Plain law: intervals of 2^-40, and what they enclose. -/
namespace Iv
structure I where
  lo : Int
  hi : Int
def In (X : I) (r : Rat) : Prop := (X.lo : Rat) ≤ r * 1099511627776 ∧ r * 1099511627776 ≤ X.hi
def fl (n d : Int) : Int := n / d
def ce (n d : Int) : Int := -((-n) / d)
def add (X Y : I) : I := ⟨X.lo + Y.lo, X.hi + Y.hi⟩
def sub (X Y : I) : I := ⟨X.lo - Y.hi, X.hi - Y.lo⟩
def four (f : Int → Int → Int) (g : Int → Int → Int) (X Y : I) : I :=
  ⟨min (min (min (f X.lo Y.lo) (f X.lo Y.hi)) (f X.hi Y.lo)) (f X.hi Y.hi), max (max (max (g X.lo Y.lo) (g X.lo Y.hi)) (g X.hi Y.lo)) (g X.hi Y.hi)⟩
def mul (X Y : I) : I := four (fun a b => fl (a * b) 1099511627776) (fun a b => ce (a * b) 1099511627776) X Y
def div (X Y : I) : I := four (fun a b => fl (a * 1099511627776) b) (fun a b => ce (a * 1099511627776) b) X Y
def hull (X Y : I) : I := ⟨min X.lo Y.lo, max X.hi Y.hi⟩
def least (X Y : I) : I := ⟨min X.lo Y.lo, min X.hi Y.hi⟩
def most (X Y : I) : I := ⟨max X.lo Y.lo, max X.hi Y.hi⟩
def limit (X : I) (l h : Int) : I := ⟨min (max X.lo l) h, max (min X.hi h) l⟩
def one : I := ⟨1099511627776, 1099511627776⟩
def twice (X : I) : I := add X X
def rest (X : I) : I := sub one X
def absolute (X : I) : I := if 0 ≤ X.lo then X else if X.hi ≤ 0 then ⟨-X.hi, -X.lo⟩ else ⟨0, max (-X.lo) X.hi⟩

theorem fl_le {n d : Int} (hd : 0 < d) : fl n d * d ≤ n := by
  unfold fl; exact Int.ediv_mul_le n (by omega)
theorem le_ce {n d : Int} (hd : 0 < d) : n ≤ ce n d * d := by
  unfold ce
  have := Int.ediv_mul_le (-n) (b := d) (by omega)
  rw [Int.neg_mul]; omega
theorem fl_lt {n d : Int} (hd : 0 < d) : n < (fl n d + 1) * d := by
  unfold fl; exact Int.lt_ediv_add_one_mul_self n hd
theorem ce_lt {n d : Int} (hd : 0 < d) : (ce n d - 1) * d < n := by
  unfold ce
  have := Int.lt_ediv_add_one_mul_self (-n) hd
  have e : (-(-n / d) - 1) * d = -((-n / d + 1) * d) := by rw [← Int.neg_mul]; congr 1; omega
  omega
theorem fl_le_ce {n d : Int} (hd : 0 < d) : fl n d ≤ ce n d := by
  have h1 := fl_le (n := n) hd
  have h2 := le_ce (n := n) hd
  exact Int.le_of_mul_le_mul_right (Int.le_trans h1 h2) hd
theorem fl_mono {n m d : Int} (hd : 0 < d) (h : n ≤ m) : fl n d ≤ fl m d := Int.ediv_le_ediv hd h
theorem ce_mono {n m d : Int} (hd : 0 < d) (h : n ≤ m) : ce n d ≤ ce m d := by
  unfold ce
  have := Int.ediv_le_ediv hd (show -m ≤ -n by omega)
  omega
theorem fl_mul (k : Int) {d : Int} (hd : 0 < d) : fl (k * d) d = k := Int.mul_ediv_cancel k (by omega)
theorem ce_mul (k : Int) {d : Int} (hd : 0 < d) : ce (k * d) d = k := by
  unfold ce
  rw [← Int.neg_mul, Int.mul_ediv_cancel _ (by omega)]; omega

section
variable {X Y : I} {x y : Rat}
theorem cast_le {a b : Int} (h : a ≤ b) : (a : Rat) ≤ b := Rat.intCast_le_intCast.2 h
theorem of_cast_le {a b : Int} (h : (a : Rat) ≤ b) : a ≤ b := Rat.intCast_le_intCast.1 h
theorem In.le (h : In X x) : X.lo ≤ X.hi := of_cast_le (Rat.le_trans h.1 h.2)
theorem In.widen (h : In X x) (h1 : Y.lo ≤ X.lo) (h2 : X.hi ≤ Y.hi) : In Y x := by
  have a := cast_le h1
  have b := cast_le h2
  unfold In at *
  grind
theorem In_add (hx : In X x) (hy : In Y y) : In (add X Y) (x + y) := by
  unfold In add at *
  simp only [Rat.intCast_add]
  grind
theorem In_sub (hx : In X x) (hy : In Y y) : In (sub X Y) (x - y) := by
  unfold In sub at *
  simp only [Rat.intCast_sub]
  grind
theorem In_twice (hx : In X x) : In (twice X) (2 * x) := by
  have := In_add hx hx
  rwa [show x + x = 2 * x by grind] at this
theorem In_one : In one 1 := by unfold In one; grind
theorem In_rest (hx : In X x) : In (rest X) (1 - x) := In_sub In_one hx
theorem In_hull_l (hx : In X x) : In (hull X Y) x := hx.widen (Int.min_le_left _ _) (Int.le_max_left _ _)
theorem In_hull_r (hy : In Y y) : In (hull X Y) y := hy.widen (Int.min_le_right _ _) (Int.le_max_right _ _)

/-- A product lies between the products of the ends. -/
theorem prod_ge {x y a b c d m : Rat} (h1 : a ≤ x) (h2 : x ≤ b) (h3 : c ≤ y) (h4 : y ≤ d) (k1 : m ≤ a * c) (k2 : m ≤ a * d) (k3 : m ≤ b * c) (k4 : m ≤ b * d) : m ≤ x * y := by
  rcases Rat.le_total (a := 0) (b := y) with hy | hy
  · have : a * y ≤ x * y := Rat.mul_le_mul_of_nonneg_right h1 hy
    rcases Rat.le_total (a := 0) (b := a) with ha | ha
    · have : a * c ≤ a * y := Rat.mul_le_mul_of_nonneg_left h3 ha
      grind
    · have : (-a) * y ≤ (-a) * d := Rat.mul_le_mul_of_nonneg_left h4 (by grind)
      grind
  · have : b * (-y) ≥ x * (-y) := Rat.mul_le_mul_of_nonneg_right h2 (by grind)
    rcases Rat.le_total (a := 0) (b := b) with ha | ha
    · have : b * c ≤ b * y := Rat.mul_le_mul_of_nonneg_left h3 ha
      grind
    · have : (-b) * y ≤ (-b) * d := Rat.mul_le_mul_of_nonneg_left h4 (by grind)
      grind
theorem prod_le {x y a b c d m : Rat} (h1 : a ≤ x) (h2 : x ≤ b) (h3 : c ≤ y) (h4 : y ≤ d) (k1 : a * c ≤ m) (k2 : a * d ≤ m) (k3 : b * c ≤ m) (k4 : b * d ≤ m) : x * y ≤ m := by
  have := prod_ge (x := -x) (y := y) (a := -b) (b := -a) (c := c) (d := d) (m := -m) (by grind) (by grind) h3 h4 (by grind) (by grind) (by grind) (by grind)
  grind
theorem cast_mul_le {a b c d : Int} (h : a * b ≤ c * d) : (a : Rat) * b ≤ c * d := by exact_mod_cast h
theorem In_mul (hx : In X x) (hy : In Y y) : In (mul X Y) (x * y) := by
  have U0 : (0 : Int) < 1099511627776 := by decide
  unfold In at *
  obtain ⟨x1, x2⟩ := hx
  obtain ⟨y1, y2⟩ := hy
  have l : ∀ a b : Int, (mul X Y).lo ≤ fl (a * b) 1099511627776 → ((mul X Y).lo : Rat) * 1099511627776 ≤ a * b := fun a b h => by
    have h1 := fl_le (n := a * b) U0
    have h2 : (mul X Y).lo * 1099511627776 ≤ a * b := by omega
    simpa using cast_mul_le h2
  have u : ∀ a b : Int, ce (a * b) 1099511627776 ≤ (mul X Y).hi → (a : Rat) * b ≤ ((mul X Y).hi : Rat) * 1099511627776 := fun a b h => by
    have h1 := le_ce (n := a * b) U0
    have h2 : a * b ≤ (mul X Y).hi * 1099511627776 := by omega
    simpa using cast_mul_le h2
  have e : x * y * 1099511627776 * 1099511627776 = (x * 1099511627776) * (y * 1099511627776) := by grind
  constructor
  · have := prod_ge x1 x2 y1 y2 (l X.lo Y.lo (by simp only [mul, four]; omega)) (l X.lo Y.hi (by simp only [mul, four]; omega)) (l X.hi Y.lo (by simp only [mul, four]; omega)) (l X.hi Y.hi (by simp only [mul, four]; omega))
    grind
  · have := prod_le x1 x2 y1 y2 (u X.lo Y.lo (by simp only [mul, four]; omega)) (u X.lo Y.hi (by simp only [mul, four]; omega)) (u X.hi Y.lo (by simp only [mul, four]; omega)) (u X.hi Y.hi (by simp only [mul, four]; omega))
    grind
theorem In_least (hx : In X x) (hy : In Y y) : In (least X Y) (min x y) := by
  unfold In least at *
  have a1 := cast_le (Int.min_le_left X.lo Y.lo)
  have a2 := cast_le (Int.min_le_right X.lo Y.lo)
  have b : min X.hi Y.hi = X.hi ∨ min X.hi Y.hi = Y.hi := by omega
  grind
theorem In_most (hx : In X x) (hy : In Y y) : In (most X Y) (max x y) := by
  unfold In most at *
  have a1 := cast_le (Int.le_max_left X.hi Y.hi)
  have a2 := cast_le (Int.le_max_right X.hi Y.hi)
  have b : max X.lo Y.lo = X.lo ∨ max X.lo Y.lo = Y.lo := by omega
  grind
theorem In_limit (hx : In X x) {l h : Int} (hl : (l : Rat) ≤ x * 1099511627776) (hh : x * 1099511627776 ≤ h) : In (limit X l h) x := by
  unfold In limit at *
  have b : max X.lo l = X.lo ∨ max X.lo l = l := by omega
  have b' : min X.hi h = X.hi ∨ min X.hi h = h := by omega
  have c := cast_le (Int.min_le_left (max X.lo l) h)
  have c' := cast_le (Int.le_max_left (min X.hi h) l)
  constructor
  · refine Rat.le_trans c ?_
    rcases b with e | e <;> rw [e] <;> grind
  · refine Rat.le_trans ?_ c'
    rcases b' with e | e <;> rw [e] <;> grind
theorem In_absolute (hx : In X x) : In (absolute X) (if 0 ≤ x then x else -x) := by
  unfold absolute
  split
  · rename_i h
    have := cast_le h
    unfold In at *
    grind
  · split
    · rename_i h
      have := cast_le h
      unfold In at *
      simp only [Rat.intCast_neg]
      grind
    · have a1 := cast_le (Int.le_max_left (-X.lo) X.hi)
      have a2 := cast_le (Int.le_max_right (-X.lo) X.hi)
      simp only [Rat.intCast_neg] at a1
      unfold In at *
      grind
theorem In_div (hx : In X x) (hy : In Y y) (h0 : 0 < Y.lo) : In (div X Y) (x / y) := by
  obtain ⟨x1, x2⟩ := hx
  have hyle := hy.le
  obtain ⟨y1, y2⟩ := hy
  have c0 := Rat.intCast_lt_intCast.2 h0
  have yp : 0 < y * 1099511627776 := by grind
  have yp' : 0 < y := by grind
  have lo0 : (0 : Rat) < Y.lo := by simpa using c0
  have hi0 : (0 : Rat) < Y.hi := by have := cast_le hyle; grind
  have l : ∀ a b : Int, 0 < b → (div X Y).lo ≤ fl (a * 1099511627776) b → ((div X Y).lo : Rat) * b ≤ a * 1099511627776 := fun a b hb h => by
    have h1 := fl_le (n := a * 1099511627776) hb
    have h2 : (div X Y).lo * b ≤ fl (a * 1099511627776) b * b := Int.mul_le_mul_of_nonneg_right h (by omega)
    simpa using cast_mul_le (Int.le_trans h2 h1)
  have u : ∀ a b : Int, 0 < b → ce (a * 1099511627776) b ≤ (div X Y).hi → (a : Rat) * 1099511627776 ≤ ((div X Y).hi : Rat) * b := fun a b hb h => by
    have h1 := le_ce (n := a * 1099511627776) hb
    have h2 : ce (a * 1099511627776) b * b ≤ (div X Y).hi * b := Int.mul_le_mul_of_nonneg_right h (by omega)
    simpa using cast_mul_le (Int.le_trans h1 h2)
  have e : x / y * y = x := by rw [Rat.div_mul_cancel]; grind
  have l1 := l X.lo Y.lo h0 (by simp only [div, four]; omega)
  have l2 := l X.lo Y.hi (by omega) (by simp only [div, four]; omega)
  have u3 := u X.hi Y.lo h0 (by simp only [div, four]; omega)
  have u4 := u X.hi Y.hi (by omega) (by simp only [div, four]; omega)
  -- the ends of the quotient times the divisor
  have key : ∀ q c : Rat, (q * (Y.lo : Rat) ≤ c) → (q * (Y.hi : Rat) ≤ c) → q * (y * 1099511627776) ≤ c := fun q c h1 h2 => by
    rcases Rat.le_total (a := 0) (b := q) with hq | hq
    · have : q * (y * 1099511627776) ≤ q * Y.hi := Rat.mul_le_mul_of_nonneg_left y2 hq
      grind
    · have : (-q) * (Y.lo : Rat) ≤ (-q) * (y * 1099511627776) := Rat.mul_le_mul_of_nonneg_left y1 (by grind)
      grind
  unfold In
  constructor
  · have h1 := key _ _ l1 l2
    have h2 : ((div X Y).lo : Rat) * (y * 1099511627776) ≤ (x / y * 1099511627776) * (y * 1099511627776) := by grind
    exact Rat.le_of_mul_le_mul_right h2 yp
  · have h1 := key (-((div X Y).hi : Rat)) (-((X.hi : Rat) * 1099511627776)) (by grind) (by grind)
    have h2 : (x / y * 1099511627776) * (y * 1099511627776) ≤ ((div X Y).hi : Rat) * (y * 1099511627776) := by grind
    exact Rat.le_of_mul_le_mul_right h2 yp
end
end Iv
end
section
/- Plain law: the blend terms of intervals enclose the blend terms of their elements. -/
namespace Iv
def U : Int := 1099511627776
def Vd (X : I) : Prop := X.lo ≤ X.hi ∧ -17592186044416 ≤ X.lo ∧ X.hi ≤ 17592186044416
instance (X : I) : Decidable (Vd X) := inferInstanceAs (Decidable (_ ∧ _))
/-- The root of a natural number, rounded down. -/
def isqGo : Nat → Nat → Nat → Nat
  | 0, x, _ => x
  | k + 1, x, n => if (x + 2 ^ k) * (x + 2 ^ k) ≤ n then isqGo k (x + 2 ^ k) n else isqGo k x n
def isq (n : Nat) : Nat := isqGo 64 0 n
def csq (n : Nat) : Nat := if isq n * isq n < n then isq n + 1 else isq n
theorem isqGo_spec : ∀ (k x n : Nat), x * x ≤ n → n < (x + 2 ^ k) * (x + 2 ^ k) → isqGo k x n * isqGo k x n ≤ n ∧ n < (isqGo k x n + 1) * (isqGo k x n + 1)
  | 0, x, n, h1, h2 => ⟨h1, by simpa [isqGo] using h2⟩
  | k + 1, x, n, h1, h2 => by
    simp only [isqGo]
    split
    · rename_i h
      refine isqGo_spec k _ n h ?_
      rw [show x + 2 ^ k + 2 ^ k = x + 2 ^ (k + 1) from by omega]
      exact h2
    · rename_i h
      exact isqGo_spec k x n h1 (by omega)
theorem isq_spec {n : Nat} (h : n < 340282366920938463463374607431768211456) : isq n * isq n ≤ n ∧ n < (isq n + 1) * (isq n + 1) :=
  isqGo_spec 64 0 n (by omega) (by simpa using h)
theorem csq_spec {n : Nat} (h : n < 340282366920938463463374607431768211456) : n ≤ csq n * csq n := by
  obtain ⟨h1, h2⟩ := isq_spec h
  unfold csq
  split
  · omega
  · omega
def sqrt (X : I) : I := ⟨isq (X.lo * 1099511627776).toNat, csq (X.hi * 1099511627776).toNat⟩
def pieces (X Y : I) (k : Int) (p q : I) : I := if X.lo * k ≤ Y.hi then (if Y.lo < X.hi * k then hull p q else p) else q
def hard (S A D B K L : I) : I := pieces K L 2 (twice (mul S D)) (sub (mul A B) (twice (mul (sub B D) (sub A S))))
def part (X Y B : I) : I := if 0 < B.lo ∧ Vd (div (mul X Y) B) then limit (div (mul X Y) B) 0 (min X.hi Y.hi) else ⟨0, min X.hi Y.hi⟩
def dark (S A D B : I) : I := sub (mul D A) (mul (limit (sub A (twice S)) 0 1099511627776) (part D (limit (sub B D) 0 1099511627776) B))
def bright (S A D B : I) : I := pieces D B 4
  (add (mul D A) (mul (limit (sub (twice S) A) 0 1099511627776) (mul D ⟨1099511627776, 3298534883328⟩)))
  (add (mul D A) (mul (limit (sub (twice S) A) 0 1099511627776) (sub (sqrt (limit (mul D B) 0 1099511627776)) D)))
def term (m : Int) (S A D B : I) : I :=
  if m = 1 then mul S B else if m = 2 then mul S D else if m = 3 then add (mul S B) (mul D (sub A S)) else if m = 4 then hard S A D B D B
  else if m = 5 then least (mul S B) (mul D A) else if m = 6 then most (mul S B) (mul D A) else if m = 9 then hard S A D B S A
  else if m = 10 then pieces S A 2 (dark S A D B) (bright S A D B) else if m = 11 then absolute (sub (mul S B) (mul D A))
  else sub (add (mul S B) (mul D A)) (twice (mul S D))
def pair1 (X Y : I) : I := ⟨max X.lo 0, min X.hi (min Y.hi 1099511627776)⟩
def pair2 (X Y : I) : I := ⟨max Y.lo (max X.lo 0), min Y.hi 1099511627776⟩
def Term (m : Int) (S A D B : I) : I := limit (term m (pair1 S A) (pair2 S A) (pair1 D B) (pair2 D B)) 0 (mul (pair2 S A) (pair2 D B)).hi

/-- The blend terms of numbers; r stands for the root of d * b. -/
def hardv (s a d b : Rat) (c : Prop) [Decidable c] : Rat := if c then 2 * (s * d) else a * b - 2 * ((b - d) * (a - s))
def softv (s a d b r : Rat) : Rat :=
  if 2 * s ≤ a then d * a - (a - 2 * s) * (if b = 0 then 0 else d * (b - d) / b)
  else if 4 * d ≤ b then d * a + (2 * s - a) * (d * (if b = 0 then 1 else 16 * (d / b * (d / b)) - 12 * (d / b) + 3))
  else d * a + (2 * s - a) * (r - d)
def tv (m : Int) (s a d b r : Rat) : Rat :=
  if m = 1 then s * b else if m = 2 then s * d else if m = 3 then s * b + d * (a - s) else if m = 4 then hardv s a d b (2 * d ≤ b)
  else if m = 5 then min (s * b) (d * a) else if m = 6 then max (s * b) (d * a) else if m = 9 then hardv s a d b (2 * s ≤ a)
  else if m = 10 then softv s a d b r else if m = 11 then (if 0 ≤ s * b - d * a then s * b - d * a else -(s * b - d * a))
  else s * b + d * a - 2 * (s * d)
/-- Numbers with 0 ≤ s ≤ a ≤ 1. -/
def Pt (s a : Rat) : Prop := 0 ≤ s ∧ s ≤ a ∧ a ≤ 1

section
variable {S A D B K L P Q : I} {s a d b r x y z p q : Rat}
theorem In_pair1 (h : Pt s a) (hs : In S s) (ha : In A a) : In (pair1 S A) s := by
  unfold In pair1 Pt at *
  have e1 : max S.lo 0 = S.lo ∨ max S.lo 0 = 0 := by omega
  have e2 : min S.hi (min A.hi 1099511627776) = S.hi ∨ min S.hi (min A.hi 1099511627776) = A.hi ∨ min S.hi (min A.hi 1099511627776) = 1099511627776 := by omega
  constructor
  · rcases e1 with e | e <;> rw [e] <;> grind
  · rcases e2 with e | e | e <;> rw [e] <;> grind
theorem In_pair2 (h : Pt s a) (hs : In S s) (ha : In A a) : In (pair2 S A) a := by
  unfold In pair2 Pt at *
  have e1 : max A.lo (max S.lo 0) = A.lo ∨ max A.lo (max S.lo 0) = S.lo ∨ max A.lo (max S.lo 0) = 0 := by omega
  have e2 : min A.hi 1099511627776 = A.hi ∨ min A.hi 1099511627776 = 1099511627776 := by omega
  constructor
  · rcases e1 with e | e | e <;> rw [e] <;> grind
  · rcases e2 with e | e <;> rw [e] <;> grind
/-- Of two pieces the one that applies is enclosed. -/
theorem In_pieces {k : Int} (hk : 0 < k) (hx : In K x) (hy : In L y) (h1 : (k : Rat) * x ≤ y → In P z) (h2 : y < (k : Rat) * x → In Q z) : In (pieces K L k P Q) z := by
  have k0 : (0 : Rat) < k := by simpa using Rat.intCast_lt_intCast.2 hk
  have lo : ((K.lo * k : Int) : Rat) ≤ (k : Rat) * x * 1099511627776 := by
    have : (k : Rat) * K.lo ≤ (k : Rat) * (x * 1099511627776) := Rat.mul_le_mul_of_nonneg_left hx.1 (Rat.le_of_lt k0)
    simp only [Rat.intCast_mul]; grind
  have hi : (k : Rat) * x * 1099511627776 ≤ ((K.hi * k : Int) : Rat) := by
    have : (k : Rat) * (x * 1099511627776) ≤ (k : Rat) * K.hi := Rat.mul_le_mul_of_nonneg_left hx.2 (Rat.le_of_lt k0)
    simp only [Rat.intCast_mul]; grind
  unfold pieces
  split
  · split
    · rcases Rat.le_total (a := (k : Rat) * x) (b := y) with h | h
      · exact In_hull_l (h1 h)
      · by_cases e : (k : Rat) * x ≤ y
        · exact In_hull_l (h1 e)
        · exact In_hull_r (h2 (by grind))
    · rename_i hn
      refine h1 ?_
      have := cast_le (show K.hi * k ≤ L.lo by omega)
      have := hy.1
      grind
  · rename_i hn
    refine h2 ?_
    have := Rat.intCast_lt_intCast.2 (show L.hi < K.lo * k by omega)
    have := hy.2
    grind
theorem In_hard (hs : In S s) (ha : In A a) (hd : In D d) (hb : In B b) (hx : In K x) (hy : In L y) : In (hard S A D B K L) (hardv s a d b (2 * x ≤ y)) := by
  unfold hard hardv
  refine In_pieces (by decide) hx hy (fun h => ?_) (fun h => ?_)
  · rw [if_pos (by simpa using h)]
    exact In_twice (In_mul hs hd)
  · rw [if_neg (by have h' : y < 2 * x := by simpa using h
                   grind)]
    exact In_sub (In_mul ha hb) (In_twice (In_mul (In_sub hb hd) (In_sub ha hs)))
theorem In_zero {h : Int} (hx : 0 ≤ x) (hh : x * 1099511627776 ≤ h) : In ⟨0, h⟩ x := by
  unfold In
  refine ⟨?_, hh⟩
  show ((0 : Int) : Rat) ≤ _
  grind
theorem min_hi {u v : Int} (hu : x * 1099511627776 ≤ u) (hv : x * 1099511627776 ≤ v) : x * 1099511627776 ≤ ((min u v : Int) : Rat) := by
  have e : min u v = u ∨ min u v = v := by omega
  rcases e with e | e <;> rw [e] <;> assumption
theorem In_part (hx : In P x) (hy : In Q y) (hb : In B b) (x0 : 0 ≤ x) (xb : x ≤ b) (y0 : 0 ≤ y) (yb : y ≤ b) : In (part P Q B) (if b = 0 then 0 else x * y / b) := by
  have hv : 0 ≤ (if b = 0 then 0 else x * y / b) ∧ (if b = 0 then 0 else x * y / b) ≤ x ∧ (if b = 0 then 0 else x * y / b) ≤ y := by
    split
    · exact ⟨by grind, x0, y0⟩
    · rename_i hb0
      have bp : 0 < b := by grind
      have e : x * y / b * b = x * y := by rw [Rat.div_mul_cancel]; exact hb0
      refine ⟨?_, ?_, ?_⟩
      · refine Rat.le_of_mul_le_mul_right (c := b) ?_ bp
        have := Rat.mul_nonneg x0 y0
        grind
      · refine Rat.le_of_mul_le_mul_right (c := b) ?_ bp
        have : x * y ≤ x * b := Rat.mul_le_mul_of_nonneg_left yb x0
        grind
      · refine Rat.le_of_mul_le_mul_right (c := b) ?_ bp
        have : x * y ≤ b * y := Rat.mul_le_mul_of_nonneg_right xb y0
        grind
  obtain ⟨v0, v1, v2⟩ := hv
  have top : (if b = 0 then 0 else x * y / b) * 1099511627776 ≤ ((min P.hi Q.hi : Int) : Rat) := by
    have := hx.2
    have := hy.2
    exact min_hi (by grind) (by grind)
  unfold part
  split
  · rename_i h
    refine In_limit ?_ (by simp only [Rat.intCast_zero]; grind) top
    have b0 : ¬ b = 0 := by
      have h2 := Rat.intCast_lt_intCast.2 h.1
      have := hb.1
      simp only [Rat.intCast_zero] at h2
      intro e
      rw [e] at this
      grind
    rw [if_neg b0]
    exact In_div (In_mul hx hy) hb h.1
  · exact In_zero v0 top
theorem In_dark (h1 : Pt s a) (h2 : Pt d b) (hc : 2 * s ≤ a) (hs : In S s) (ha : In A a) (hd : In D d) (hb : In B b) :
    In (dark S A D B) (d * a - (a - 2 * s) * (if b = 0 then 0 else d * (b - d) / b)) := by
  unfold dark
  obtain ⟨s0, sa, a1⟩ := h1
  obtain ⟨d0, db, b1⟩ := h2
  have g : In (limit (sub B D) 0 1099511627776) (b - d) := In_limit (In_sub hb hd) (by simp only [Rat.intCast_zero]; grind) (by grind)
  have o : In (limit (sub A (twice S)) 0 1099511627776) (a - 2 * s) := In_limit (In_sub ha (In_twice hs)) (by simp only [Rat.intCast_zero]; grind) (by grind)
  exact In_sub (In_mul hd ha) (In_mul o (In_part hd g hb d0 db (by grind) (by grind)))
theorem quarter {u : Rat} (h0 : 0 ≤ u) (h1 : 4 * u ≤ 1) : 1 ≤ 16 * (u * u) - 12 * u + 3 ∧ 16 * (u * u) - 12 * u + 3 ≤ 3 := by
  have e1 : 0 ≤ (1 - 4 * u) * (1 - 4 * u) := Rat.mul_nonneg (by grind) (by grind)
  have e2 : 0 ≤ u * (1 - 4 * u) := Rat.mul_nonneg h0 (by grind)
  constructor <;> grind
theorem In_bright (h1 : Pt s a) (h2 : Pt d b) (hc : a < 2 * s) (hs : In S s) (ha : In A a) (hd : In D d) (hb : In B b) (hr : b < 4 * d → In (sqrt (limit (mul D B) 0 1099511627776)) r) :
    In (bright S A D B) (if 4 * d ≤ b then d * a + (2 * s - a) * (d * (if b = 0 then 1 else 16 * (d / b * (d / b)) - 12 * (d / b) + 3)) else d * a + (2 * s - a) * (r - d)) := by
  unfold bright
  obtain ⟨s0, sa, a1⟩ := h1
  obtain ⟨d0, db, b1⟩ := h2
  have o : In (limit (sub (twice S) A) 0 1099511627776) (2 * s - a) := In_limit (In_sub (In_twice hs) ha) (by simp only [Rat.intCast_zero]; grind) (by grind)
  refine In_pieces (by decide) hd hb (fun h => ?_) (fun h => ?_)
  · have h' : 4 * d ≤ b := by simpa using h
    rw [if_pos h']
    refine In_add (In_mul hd ha) (In_mul o (In_mul hd ?_))
    split
    · unfold In; constructor <;> simp <;> grind
    · rename_i hb0
      have bp : 0 < b := by grind
      have e : d / b * b = d := by rw [Rat.div_mul_cancel]; exact hb0
      obtain ⟨q1, q2⟩ := quarter (u := d / b) (by
          refine Rat.le_of_mul_le_mul_right (c := b) ?_ bp
          grind) (by
          refine Rat.le_of_mul_le_mul_right (c := b) ?_ bp
          grind)
      unfold In
      constructor
      · show ((1099511627776 : Int) : Rat) ≤ _
        grind
      · show _ ≤ ((3298534883328 : Int) : Rat)
        grind
  · have h' : b < 4 * d := by simpa using h
    rw [if_neg (by grind)]
    exact In_add (In_mul hd ha) (In_mul o (In_sub (hr h') hd))
theorem In_term {m : Int} (hm : 1 ≤ m ∧ m ≤ 12 ∧ m ≠ 7 ∧ m ≠ 8) (h1 : Pt s a) (h2 : Pt d b) (hs : In S s) (ha : In A a) (hd : In D d) (hb : In B b)
    (hr : m = 10 → a < 2 * s → b < 4 * d → In (sqrt (limit (mul D B) 0 1099511627776)) r) : In (term m S A D B) (tv m s a d b r) := by
  have cs : m = 1 ∨ m = 2 ∨ m = 3 ∨ m = 4 ∨ m = 5 ∨ m = 6 ∨ m = 9 ∨ m = 10 ∨ m = 11 ∨ m = 12 := by omega
  rcases cs with e | e | e | e | e | e | e | e | e | e <;> subst e <;> simp only [term, tv, Int.reduceEq, if_true, if_false]
  · exact In_mul hs hb
  · exact In_mul hs hd
  · exact In_add (In_mul hs hb) (In_mul hd (In_sub ha hs))
  · exact In_hard hs ha hd hb hd hb
  · exact In_least (In_mul hs hb) (In_mul hd ha)
  · exact In_most (In_mul hs hb) (In_mul hd ha)
  · exact In_hard hs ha hd hb hs ha
  · unfold softv
    refine In_pieces (by decide) hs ha (fun h => ?_) (fun h => ?_)
    · have h' : 2 * s ≤ a := by simpa using h
      rw [if_pos h']
      exact In_dark h1 h2 h' hs ha hd hb
    · have h' : a < 2 * s := by simpa using h
      rw [if_neg (by grind)]
      exact In_bright h1 h2 h' hs ha hd hb (hr rfl h')
  · exact In_absolute (In_sub (In_mul hs hb) (In_mul hd ha))
  · exact In_sub (In_add (In_mul hs hb) (In_mul hd ha)) (In_twice (In_mul hs hd))
end
end Iv
end
section
/- Plain law: the blend terms of whole numbers, as the document defines them. -/
namespace Bz
def cmpI (x y : Int) : Int := if x < y then -1 else if y < x then 1 else 0
/-- How (P + Q * sqrt R) / Den compares with n. -/
def cx (P Q R Den n : Int) : Int := if n * Den < P then 1 else cmpI (Q * Q * R) ((n * Den - P) * (n * Den - P))
/-- Samples: 0 ≤ s ≤ a ≤ 65535. -/
def Sm (s a : Int) : Prop := 0 ≤ s ∧ s ≤ a ∧ a ≤ 65535
structure Ex where
  P : Int
  Q : Int
  R : Int
  Den : Int
def whole (p : Int) : Ex := ⟨p, 0, 0, 1⟩
def hardZ (s a d b : Int) : Int := if 2 * s ≤ a then 2 * s * d else a * b - 2 * (b - d) * (a - s)
def softZ (s a d b : Int) : Ex :=
  if b = 0 then whole 0 else if 2 * s ≤ a then ⟨d * a * b - (a - 2 * s) * d * (b - d), 0, 0, b⟩
  else if 4 * d ≤ b then ⟨d * a * (b * b) + (2 * s - a) * d * (16 * d * d + 3 * b * b - 12 * d * b), 0, 0, b * b⟩
  else ⟨2 * d * (a - s), 2 * s - a, d * b, 1⟩
def blZ (m s a d b : Int) : Ex :=
  if m = 1 then whole (s * b) else if m = 2 then whole (s * d) else if m = 3 then whole (s * b + d * a - s * d) else if m = 4 then whole (hardZ d b s a)
  else if m = 5 then whole (min (s * b) (d * a)) else if m = 6 then whole (max (s * b) (d * a)) else if m = 9 then whole (hardZ s a d b) else if m = 10 then softZ s a d b
  else if m = 11 then whole (max (s * b) (d * a) - min (s * b) (d * a)) else whole (s * b + d * a - 2 * s * d)
theorem mul_rng {a b A B : Int} (ha : 0 ≤ a) (hA : a ≤ A) (hb : 0 ≤ b) (hB : b ≤ B) : 0 ≤ a * b ∧ a * b ≤ A * B :=
  ⟨Int.mul_nonneg ha hb, Int.mul_le_mul hA hB hb (by omega)⟩
end Bz
end
section
/- Plain law: what a term's enclosure says of the exact blend term of samples. -/
namespace Iv
open Bz
theorem rat_le_of_mul {x y c : Rat} (hc : 0 < c) (h : x * c ≤ y * c) : x ≤ y := Rat.le_of_mul_le_mul_right h hc
theorem sq_le {x y : Rat} (hx : 0 ≤ x) (h : x ≤ y) : x * x ≤ y * y := by
  have h1 : x * x ≤ y * x := Rat.mul_le_mul_of_nonneg_right h hx
  have h2 : y * x ≤ y * y := Rat.mul_le_mul_of_nonneg_left h (by grind)
  grind
theorem le_of_sq {x y : Rat} (hy : 0 ≤ y) (h : x * x ≤ y * y) : x ≤ y := by
  rcases Rat.le_total (a := x) (b := y) with e | e
  · exact e
  · by_cases hxy : x = y
    · rw [hxy]; exact Rat.le_refl
    · have h1 : y * y ≤ x * y := Rat.mul_le_mul_of_nonneg_right e hy
      have h2 : x * y ≤ x * x := Rat.mul_le_mul_of_nonneg_left e (by grind)
      have h3 : (x - y) * (x - y) ≤ 0 := by grind
      have h4 : 0 < (x - y) := by grind
      have := Rat.mul_pos h4 h4
      grind
theorem cdiv_le {a b : Rat} (hb : 0 < b) (h : a ≤ b) : a / b ≤ 1 := by
  refine rat_le_of_mul hb ?_
  rw [Rat.div_mul_cancel (by grind)]; grind
/-- The terms lie between 0 and a * b. -/
theorem hardv_rng {s a d b : Rat} (h1 : Pt s a) (h2 : Pt d b) {c : Prop} [Decidable c] (hc : (c ↔ 2 * s ≤ a) ∨ (c ↔ 2 * d ≤ b)) : 0 ≤ hardv s a d b c ∧ hardv s a d b c ≤ a * b := by
  obtain ⟨s0, sa, a1⟩ := h1
  obtain ⟨d0, db, b1⟩ := h2
  have e1 := Rat.mul_nonneg s0 d0
  have e2 : s * d ≤ a * d := Rat.mul_le_mul_of_nonneg_right sa d0
  have e3 : a * d ≤ a * b := Rat.mul_le_mul_of_nonneg_left db (by grind)
  have e4 : s * d ≤ s * b := Rat.mul_le_mul_of_nonneg_left db s0
  have e5 := Rat.mul_nonneg (show 0 ≤ b - d by grind) (show 0 ≤ a - s by grind)
  unfold hardv
  split
  · rename_i h
    refine ⟨by grind, ?_⟩
    rcases hc with hc | hc
    · have hh := hc.1 h
      have : 2 * s * d ≤ a * d := Rat.mul_le_mul_of_nonneg_right hh d0
      grind
    · have hh := hc.1 h
      have : s * (2 * d) ≤ s * b := Rat.mul_le_mul_of_nonneg_left hh s0
      have : s * b ≤ a * b := Rat.mul_le_mul_of_nonneg_right sa (by grind)
      grind
  · rename_i h
    refine ⟨?_, by grind⟩
    rcases hc with hc | hc
    · have hh : ¬ 2 * s ≤ a := fun e => h (hc.2 e)
      have : (b - d) * (2 * (a - s)) ≤ (b - d) * a := Rat.mul_le_mul_of_nonneg_left (by grind) (by grind)
      have : (b - d) * a ≤ b * a := Rat.mul_le_mul_of_nonneg_right (by grind) (by grind)
      grind
    · have hh : ¬ 2 * d ≤ b := fun e => h (hc.2 e)
      have : (2 * (b - d)) * (a - s) ≤ b * (a - s) := Rat.mul_le_mul_of_nonneg_right (by grind) (by grind)
      have : b * (a - s) ≤ b * a := Rat.mul_le_mul_of_nonneg_left (by grind) (by grind)
      grind
theorem softv_rng {s a d b r : Rat} (h1 : Pt s a) (h2 : Pt d b) (hr : a < 2 * s → b < 4 * d → 0 ≤ r ∧ r ≤ b) : 0 ≤ softv s a d b r ∧ softv s a d b r ≤ a * b := by
  obtain ⟨s0, sa, a1⟩ := h1
  obtain ⟨d0, db, b1⟩ := h2
  have a0 : 0 ≤ a := by grind
  have b0 : 0 ≤ b := by grind
  have e0 := Rat.mul_nonneg d0 a0
  have e3 : d * a ≤ b * a := Rat.mul_le_mul_of_nonneg_right db a0
  unfold softv
  split
  · rename_i h
    have hp : 0 ≤ (if b = 0 then 0 else d * (b - d) / b) ∧ (if b = 0 then 0 else d * (b - d) / b) ≤ d := by
      split
      · exact ⟨by grind, d0⟩
      · rename_i hb
        have bp : 0 < b := by grind
        have e : d * (b - d) / b * b = d * (b - d) := Rat.div_mul_cancel hb
        have f1 := Rat.mul_nonneg d0 (show 0 ≤ b - d by grind)
        have f2 := Rat.mul_nonneg d0 d0
        exact ⟨rat_le_of_mul bp (by grind), rat_le_of_mul bp (by grind)⟩
    obtain ⟨q0, q1⟩ := hp
    have f1 : (a - 2 * s) * (if b = 0 then 0 else d * (b - d) / b) ≤ (a - 2 * s) * d := Rat.mul_le_mul_of_nonneg_left q1 (by grind)
    have f2 := Rat.mul_nonneg (show 0 ≤ a - 2 * s by grind) q0
    have f3 := Rat.mul_nonneg s0 d0
    constructor <;> grind
  · rename_i h
    have h' : a < 2 * s := by grind
    split
    · rename_i h4
      have hf : 1 ≤ (if b = 0 then (1 : Rat) else 16 * (d / b * (d / b)) - 12 * (d / b) + 3) ∧ (if b = 0 then (1 : Rat) else 16 * (d / b * (d / b)) - 12 * (d / b) + 3) ≤ 3 := by
        split
        · constructor <;> grind
        · rename_i hb
          have bp : 0 < b := by grind
          have e : d / b * b = d := Rat.div_mul_cancel hb
          exact quarter (rat_le_of_mul bp (by grind)) (rat_le_of_mul bp (by grind))
      obtain ⟨q0, q1⟩ := hf
      have g1 := Rat.mul_nonneg d0 (show 0 ≤ (if b = 0 then (1 : Rat) else 16 * (d / b * (d / b)) - 12 * (d / b) + 3) by grind)
      have g2 : d * (if b = 0 then (1 : Rat) else 16 * (d / b * (d / b)) - 12 * (d / b) + 3) ≤ d * 3 := Rat.mul_le_mul_of_nonneg_left q1 d0
      have g3 := Rat.mul_nonneg (show 0 ≤ 2 * s - a by grind) g1
      have g4 : (2 * s - a) * (d * (if b = 0 then (1 : Rat) else 16 * (d / b * (d / b)) - 12 * (d / b) + 3)) ≤ a * (d * (if b = 0 then (1 : Rat) else 16 * (d / b * (d / b)) - 12 * (d / b) + 3)) := Rat.mul_le_mul_of_nonneg_right (by grind) g1
      have g5 : a * (d * (if b = 0 then (1 : Rat) else 16 * (d / b * (d / b)) - 12 * (d / b) + 3)) ≤ a * (d * 3) := Rat.mul_le_mul_of_nonneg_left g2 a0
      have g6 : a * (4 * d) ≤ a * b := Rat.mul_le_mul_of_nonneg_left h4 a0
      constructor <;> grind
    · rename_i h4
      obtain ⟨r0, rb⟩ := hr h' (by grind)
      have g1 := Rat.mul_nonneg (show 0 ≤ 2 * s - a by grind) r0
      have g2 : (2 * s - a) * d ≤ a * d := Rat.mul_le_mul_of_nonneg_right (by grind) d0
      have g3 : (2 * s - a) * r ≤ (2 * s - a) * b := Rat.mul_le_mul_of_nonneg_left rb (by grind)
      have g4 : (2 * s - a) * (b - d) ≤ a * (b - d) := Rat.mul_le_mul_of_nonneg_right (by grind) (by grind)
      constructor <;> grind
theorem tv_rng {m : Int} (hm : 1 ≤ m ∧ m ≤ 12 ∧ m ≠ 7 ∧ m ≠ 8) {s a d b r : Rat} (h1 : Pt s a) (h2 : Pt d b) (hr : m = 10 → a < 2 * s → b < 4 * d → 0 ≤ r ∧ r ≤ b) : 0 ≤ tv m s a d b r ∧ tv m s a d b r ≤ a * b := by
  have cs : m = 1 ∨ m = 2 ∨ m = 3 ∨ m = 4 ∨ m = 5 ∨ m = 6 ∨ m = 9 ∨ m = 10 ∨ m = 11 ∨ m = 12 := by omega
  have k1 := h1
  have k2 := h2
  obtain ⟨s0, sa, a1⟩ := h1
  obtain ⟨d0, db, b1⟩ := h2
  have a0 : 0 ≤ a := by grind
  have b0 : 0 ≤ b := by grind
  have e1 := Rat.mul_nonneg s0 b0
  have e2 := Rat.mul_nonneg d0 a0
  have e3 := Rat.mul_nonneg s0 d0
  have e4 : s * b ≤ a * b := Rat.mul_le_mul_of_nonneg_right sa b0
  have e5 : d * a ≤ b * a := Rat.mul_le_mul_of_nonneg_right db a0
  have e6 : s * d ≤ s * b := Rat.mul_le_mul_of_nonneg_left db s0
  have e7 : s * d ≤ a * d := Rat.mul_le_mul_of_nonneg_right sa d0
  have e8 := Rat.mul_nonneg (show 0 ≤ b - d by grind) (show 0 ≤ a - s by grind)
  rcases cs with e | e | e | e | e | e | e | e | e | e <;> subst e <;> simp only [tv, Int.reduceEq, if_true, if_false]
  · exact ⟨e1, e4⟩
  · exact ⟨e3, by grind⟩
  · constructor <;> grind
  · exact hardv_rng k1 k2 (.inr Iff.rfl)
  · constructor <;> grind
  · constructor <;> grind
  · exact hardv_rng k1 k2 (.inl Iff.rfl)
  · exact softv_rng k1 k2 (hr rfl)
  · split <;> constructor <;> grind
  · constructor <;> grind
theorem In_Term {m : Int} (hm : 1 ≤ m ∧ m ≤ 12 ∧ m ≠ 7 ∧ m ≠ 8) {S A D B : I} {s a d b r : Rat} (h1 : Pt s a) (h2 : Pt d b) (hs : In S s) (ha : In A a) (hd : In D d) (hb : In B b)
    (hr : m = 10 → a < 2 * s → b < 4 * d → In (sqrt (limit (mul (pair1 D B) (pair2 D B)) 0 1099511627776)) r ∧ 0 ≤ r ∧ r ≤ b) : In (Term m S A D B) (tv m s a d b r) := by
  have i1 := In_pair1 h1 hs ha
  have i2 := In_pair2 h1 hs ha
  have i3 := In_pair1 h2 hd hb
  have i4 := In_pair2 h2 hd hb
  obtain ⟨t0, t1⟩ := tv_rng hm h1 h2 (fun e x y => (hr e x y).2)
  have ab := (In_mul i2 i4).2
  refine In_limit (In_term hm h1 h2 i1 i2 i3 i4 (fun e x y => (hr e x y).1)) (by simp only [Rat.intCast_zero]; grind) (by grind)
end Iv
end
section
/- Plain law: the enclosure of a term and the exact blend term, compared as the law compares them. -/
namespace Iv
open Bz
theorem root_lo {X : I} {z : Rat} (hX : In X z) (h0 : 0 ≤ X.lo) (h1 : X.lo ≤ 1099511627776) : (0 : Rat) ≤ (sqrt X).lo ∧ ((sqrt X).lo : Rat) * (sqrt X).lo ≤ z * 1099511627776 * 1099511627776 := by
  have hn : (((X.lo * 1099511627776).toNat : Nat) : Int) = X.lo * 1099511627776 := Int.toNat_of_nonneg (by omega)
  obtain ⟨g1, _⟩ := isq_spec (n := (X.lo * 1099511627776).toNat) (by omega)
  have e : (sqrt X).lo = ((isq (X.lo * 1099511627776).toNat : Nat) : Int) := rfl
  have h2 : (sqrt X).lo * (sqrt X).lo ≤ X.lo * 1099511627776 := by
    rw [e, ← hn, ← Int.natCast_mul]; exact Int.ofNat_le.2 g1
  have h3 := cast_mul_le h2
  simp only [Rat.intCast_ofNat] at h3
  have h4 : ((0 : Int) : Rat) ≤ ((sqrt X).lo : Rat) := cast_le (by rw [e]; omega)
  simp only [Rat.intCast_zero] at h4
  refine ⟨h4, ?_⟩
  have := hX.1
  grind
theorem root_hi {X : I} {z : Rat} (hX : In X z) (h0 : 0 ≤ X.hi) (h1 : X.hi ≤ 1099511627776) : (0 : Rat) ≤ (sqrt X).hi ∧ z * 1099511627776 * 1099511627776 ≤ ((sqrt X).hi : Rat) * (sqrt X).hi := by
  have hn : (((X.hi * 1099511627776).toNat : Nat) : Int) = X.hi * 1099511627776 := Int.toNat_of_nonneg (by omega)
  have g1 := csq_spec (n := (X.hi * 1099511627776).toNat) (by omega)
  have e : (sqrt X).hi = ((csq (X.hi * 1099511627776).toNat : Nat) : Int) := rfl
  have h2 : X.hi * 1099511627776 ≤ (sqrt X).hi * (sqrt X).hi := by
    rw [e, ← hn, ← Int.natCast_mul]; exact Int.ofNat_le.2 g1
  have h3 := cast_mul_le h2
  simp only [Rat.intCast_ofNat] at h3
  have h4 : ((0 : Int) : Rat) ≤ ((sqrt X).hi : Rat) := cast_le (by rw [e]; omega)
  simp only [Rat.intCast_zero] at h4
  refine ⟨h4, ?_⟩
  have := hX.2
  grind
section
variable {N k w : Int} {v : I} {t : Rat}
/-- Below the enclosure's lower end, in the law's units. -/
theorem lo_le (hw : 0 < w) (hU : N * N * k * w = 1099511627776) (hv : In v t) (t0 : 0 ≤ t) : ((max v.lo 0 / w : Int) : Rat) ≤ t * (N * N * k) := by
  have w0 : (0 : Rat) < w := by simpa using Rat.intCast_lt_intCast.2 hw
  have h1 : max v.lo 0 / w * w ≤ max v.lo 0 := Int.ediv_mul_le _ (by omega)
  have h2 := cast_le h1
  simp only [Rat.intCast_mul] at h2
  have h3 : ((max v.lo 0 : Int) : Rat) ≤ t * 1099511627776 := by
    have e : max v.lo 0 = v.lo ∨ max v.lo 0 = 0 := by omega
    rcases e with e | e <;> rw [e]
    · exact hv.1
    · simp only [Rat.intCast_zero]; grind
  have hU' : (N : Rat) * N * k * w = 1099511627776 := by
    have := congrArg (fun z : Int => (z : Rat)) hU
    simpa [Rat.intCast_mul] using this
  have e : t * (N * N * k) * w = t * 1099511627776 := by rw [← hU']; clear hU hU' h1 h2 h3 hv t0; grind
  refine rat_le_of_mul w0 ?_
  rw [e]
  exact Rat.le_trans h2 h3
theorem le_hi (hw : 0 < w) (hU : N * N * k * w = 1099511627776) (hv : In v t) : t * (N * N * k) ≤ (((max v.hi 0 + w - 1) / w : Int) : Rat) := by
  have w0 : (0 : Rat) < w := by simpa using Rat.intCast_lt_intCast.2 hw
  have h1 : max v.hi 0 ≤ (max v.hi 0 + w - 1) / w * w := by
    have := Int.lt_ediv_add_one_mul_self (max v.hi 0 + w - 1) hw
    rw [Int.add_mul] at this
    omega
  have h2 := cast_le h1
  simp only [Rat.intCast_mul] at h2
  have h3 : t * 1099511627776 ≤ ((max v.hi 0 : Int) : Rat) := Rat.le_trans hv.2 (cast_le (Int.le_max_left _ _))
  have hU' : (N : Rat) * N * k * w = 1099511627776 := by
    have := congrArg (fun z : Int => (z : Rat)) hU
    simpa [Rat.intCast_mul] using this
  have e : t * (N * N * k) * w = t * 1099511627776 := by rw [← hU']; clear hU hU' h1 h2 h3 hv; grind
  refine rat_le_of_mul w0 ?_
  rw [e]
  exact Rat.le_trans h3 h2
theorem sq_nonneg (x : Int) : 0 ≤ x * x := by
  rcases Int.le_total 0 x with h | h
  · exact Int.mul_nonneg h h
  · have := Int.mul_nonneg (show 0 ≤ -x by omega) (show 0 ≤ -x by omega)
    rwa [Int.neg_mul_neg] at this
theorem cx_ge_of {P Q R Den n : Int} (h : n * Den < P ∨ (n * Den - P) * (n * Den - P) ≤ Q * Q * R) : 0 ≤ cx P Q R Den n := by
  unfold cx cmpI
  split
  · omega
  · rename_i hn
    have := h.resolve_left hn
    rw [if_neg (by omega)]
    split <;> omega
theorem cx_le_of {P Q R Den n : Int} (h1 : P ≤ n * Den) (h : Q * Q * R ≤ (n * Den - P) * (n * Den - P)) : cx P Q R Den n ≤ 0 := by
  unfold cx cmpI
  rw [if_neg (by omega)]
  split
  · omega
  · rw [if_neg (by omega)]; omega
theorem fin_q0 {P Den R : Int} (hw : 0 < w) (hU : N * N * k * w = 1099511627776) (hD : 0 < Den) (hv : In v t) (t0 : 0 ≤ t) (ht : t * (N * N) * Den = P) :
    0 ≤ cx (P * k) (0 * k) R Den (max v.lo 0 / w) ∧ cx (P * k) (0 * k) R Den ((max v.hi 0 + w - 1) / w) ≤ 0 := by
  have D0 : (0 : Rat) < Den := by simpa using Rat.intCast_lt_intCast.2 hD
  have a1 := lo_le hw hU hv t0
  have a2 := le_hi hw hU hv
  constructor
  · have : max v.lo 0 / w * Den ≤ P * k := by
      refine of_cast_le ?_
      simp only [Rat.intCast_mul]
      have h := Rat.mul_le_mul_of_nonneg_right a1 (Rat.le_of_lt D0)
      have e : t * (N * N * k) * Den = P * k := by rw [← ht]; clear h a1 a2 ht hv hU; grind
      rwa [e] at h
    refine cx_ge_of ?_
    rcases Int.lt_or_le (max v.lo 0 / w * Den) (P * k) with h | h
    · exact .inl h
    · right
      rw [show max v.lo 0 / w * Den - P * k = 0 by omega]
      simp
  · have : P * k ≤ (max v.hi 0 + w - 1) / w * Den := by
      refine of_cast_le ?_
      simp only [Rat.intCast_mul]
      have h := Rat.mul_le_mul_of_nonneg_right a2 (Rat.le_of_lt D0)
      have e : t * (N * N * k) * Den = P * k := by rw [← ht]; clear h a1 a2 ht hv hU; grind
      rwa [e] at h
    refine cx_le_of this ?_
    simp only [Int.zero_mul]
    exact sq_nonneg _
theorem fin_lo {P Q R : Int} {r : Rat} (hw : 0 < w) (hk : 0 < k) (hU : N * N * k * w = 1099511627776) (hQ : 0 ≤ Q) (hv : In v t) (t0 : 0 ≤ t) (ht : t * (N * N) = P + Q * (r * N)) (hr : r * N * (r * N) ≤ R) :
    0 ≤ cx (P * k) (Q * k) R 1 (max v.lo 0 / w) := by
  have a1 := lo_le hw hU hv t0
  have k0 : (0 : Rat) < k := by simpa using Rat.intCast_lt_intCast.2 hk
  have q0 : (0 : Rat) ≤ Q := by simpa using cast_le hQ
  refine cx_ge_of ?_
  rw [Int.mul_one]
  rcases Int.lt_or_le (max v.lo 0 / w) (P * k) with h | h
  · exact .inl h
  · right
    refine of_cast_le ?_
    have h' := cast_le h
    simp only [Rat.intCast_mul, Rat.intCast_sub] at h' ⊢
    generalize ((max v.lo 0 / w : Int) : Rat) = n at *
    have e0 : t * (N * N * k) = (P + Q * (r * N)) * k := by rw [← ht]; clear a1 h h' ht hv hU hr; grind
    rw [e0] at a1
    have e1 : n - P * k ≤ Q * (r * N) * k := by clear h e0 ht hv hU hr; grind
    have e2 := sq_le (show (0 : Rat) ≤ n - P * k by grind) e1
    have e3 := Rat.mul_le_mul_of_nonneg_left hr (Rat.mul_nonneg (Rat.mul_nonneg q0 (Rat.le_of_lt k0)) (Rat.mul_nonneg q0 (Rat.le_of_lt k0)))
    grind
theorem fin_hi {P Q R : Int} {r : Rat} (hw : 0 < w) (hk : 0 < k) (hU : N * N * k * w = 1099511627776) (hQ : 0 ≤ Q) (hv : In v t) (r0 : 0 ≤ r * N) (ht : t * (N * N) = P + Q * (r * N)) (hr : R ≤ r * N * (r * N)) :
    cx (P * k) (Q * k) R 1 ((max v.hi 0 + w - 1) / w) ≤ 0 := by
  have a1 := le_hi hw hU hv
  have k0 : (0 : Rat) < k := by simpa using Rat.intCast_lt_intCast.2 hk
  have q0 : (0 : Rat) ≤ Q := by simpa using cast_le hQ
  have qr := Rat.mul_nonneg (Rat.mul_nonneg q0 r0) (Rat.le_of_lt k0)
  have e0 : t * (N * N * k) = (P + Q * (r * N)) * k := by rw [← ht]; clear a1 ht hv hU hr; grind
  rw [e0] at a1
  refine cx_le_of ?_ ?_
  · refine of_cast_le ?_
    simp only [Rat.intCast_mul, Rat.intCast_one]
    generalize (((max v.hi 0 + w - 1) / w : Int) : Rat) = n at *
    clear ht hv hU hr e0; grind
  · refine of_cast_le ?_
    rw [Int.mul_one]
    simp only [Rat.intCast_mul, Rat.intCast_sub]
    generalize (((max v.hi 0 + w - 1) / w : Int) : Rat) = n at *
    have e1 : Q * (r * N) * k ≤ n - P * k := by clear ht hv hU hr e0; grind
    have e2 := sq_le qr e1
    have e3 := Rat.mul_le_mul_of_nonneg_left hr (Rat.mul_nonneg (Rat.mul_nonneg q0 (Rat.le_of_lt k0)) (Rat.mul_nonneg q0 (Rat.le_of_lt k0)))
    grind
end
section
variable {N S A D B : Int}
theorem Pt_of (hN : 0 < N) (h0 : 0 ≤ S) (h1 : S ≤ A) (h2 : A ≤ N) : Pt ((S : Rat) / N) ((A : Rat) / N) := by
  have n0 : (0 : Rat) < N := by simpa using Rat.intCast_lt_intCast.2 hN
  have e1 : (S : Rat) / N * N = S := Rat.div_mul_cancel (by grind)
  have e2 : (A : Rat) / N * N = A := Rat.div_mul_cancel (by grind)
  have c0 := cast_le h0
  have c1 := cast_le h1
  have c2 := cast_le h2
  simp only [Rat.intCast_zero] at c0
  exact ⟨rat_le_of_mul n0 (by grind), rat_le_of_mul n0 (by grind), rat_le_of_mul n0 (by grind)⟩
/-- The terms of samples, written over N * N. -/
theorem tv_whole (hN : 0 < N) {m : Int} (hm : 1 ≤ m ∧ m ≤ 12 ∧ m ≠ 7 ∧ m ≠ 8) (h10 : m ≠ 10) (r : Rat) :
    ∃ P : Int, blZ m S A D B = whole P ∧ tv m ((S : Rat) / N) ((A : Rat) / N) ((D : Rat) / N) ((B : Rat) / N) r * (N * N) = P := by
  have n0 : (0 : Rat) < N := by simpa using Rat.intCast_lt_intCast.2 hN
  have e1 : (S : Rat) / N * N = S := Rat.div_mul_cancel (by grind)
  have e2 : (A : Rat) / N * N = A := Rat.div_mul_cancel (by grind)
  have e3 : (D : Rat) / N * N = D := Rat.div_mul_cancel (by grind)
  have e4 : (B : Rat) / N * N = B := Rat.div_mul_cancel (by grind)
  generalize (S : Rat) / N = s at *
  generalize (A : Rat) / N = a at *
  generalize (D : Rat) / N = d at *
  generalize (B : Rat) / N = b at *
  have c1 : 2 * s ≤ a ↔ 2 * S ≤ A := by
    have : ((2 * S : Int) : Rat) = 2 * s * N := by simp only [Rat.intCast_mul, Rat.intCast_ofNat]; grind
    constructor
    · intro h
      have := Rat.mul_le_mul_of_nonneg_right h (Rat.le_of_lt n0)
      exact of_cast_le (by grind)
    · intro h
      have := cast_le h
      exact rat_le_of_mul n0 (by grind)
  have c2 : 2 * d ≤ b ↔ 2 * D ≤ B := by
    have : ((2 * D : Int) : Rat) = 2 * d * N := by simp only [Rat.intCast_mul, Rat.intCast_ofNat]; grind
    constructor
    · intro h
      have := Rat.mul_le_mul_of_nonneg_right h (Rat.le_of_lt n0)
      exact of_cast_le (by grind)
    · intro h
      have := cast_le h
      exact rat_le_of_mul n0 (by grind)
  have nn : (0 : Rat) < N * N := Rat.mul_pos n0 n0
  have sb : s * b * (N * N) = ((S * B : Int) : Rat) := by simp only [Rat.intCast_mul]; grind
  have da : d * a * (N * N) = ((D * A : Int) : Rat) := by simp only [Rat.intCast_mul]; grind
  have mn : (s * b ≤ d * a) ↔ (S * B ≤ D * A) := by
    constructor
    · intro h
      have := Rat.mul_le_mul_of_nonneg_right h (Rat.le_of_lt nn)
      exact of_cast_le (by grind)
    · intro h
      have := cast_le h
      exact rat_le_of_mul nn (by grind)
  have mn2 : (d * a ≤ s * b) ↔ (D * A ≤ S * B) := by
    constructor
    · intro h
      have := Rat.mul_le_mul_of_nonneg_right h (Rat.le_of_lt nn)
      exact of_cast_le (by grind)
    · intro h
      have := cast_le h
      exact rat_le_of_mul nn (by grind)
  have cs : m = 1 ∨ m = 2 ∨ m = 3 ∨ m = 4 ∨ m = 5 ∨ m = 6 ∨ m = 9 ∨ m = 11 ∨ m = 12 := by omega
  rcases cs with e | e | e | e | e | e | e | e | e <;> subst e <;> simp only [tv, blZ, Int.reduceEq, if_true, if_false] <;> refine ⟨_, rfl, ?_⟩
  · simp only [Rat.intCast_mul]; grind
  · simp only [Rat.intCast_mul]; grind
  · simp only [Rat.intCast_mul, Rat.intCast_add, Rat.intCast_sub]; grind
  · unfold hardv hardZ
    by_cases h : 2 * d ≤ b
    · rw [if_pos h, if_pos (c2.1 h)]
      simp only [Rat.intCast_mul, Rat.intCast_ofNat]; grind
    · rw [if_neg h, if_neg (fun e => h (c2.2 e))]
      simp only [Rat.intCast_mul, Rat.intCast_sub, Rat.intCast_ofNat]; grind
  · by_cases h : s * b ≤ d * a
    · have := mn.1 h
      rw [show min (S * B) (D * A) = S * B by omega]
      grind
    · have h2 : d * a ≤ s * b := by grind
      have := mn2.1 h2
      rw [show min (S * B) (D * A) = D * A by omega]
      grind
  · by_cases h : s * b ≤ d * a
    · have := mn.1 h
      rw [show max (S * B) (D * A) = D * A by omega]
      grind
    · have h2 : d * a ≤ s * b := by grind
      have := mn2.1 h2
      rw [show max (S * B) (D * A) = S * B by omega]
      grind
  · unfold hardv hardZ
    by_cases h : 2 * s ≤ a
    · rw [if_pos h, if_pos (c1.1 h)]
      simp only [Rat.intCast_mul, Rat.intCast_ofNat]; grind
    · rw [if_neg h, if_neg (fun e => h (c1.2 e))]
      simp only [Rat.intCast_mul, Rat.intCast_sub, Rat.intCast_ofNat]; grind
  · by_cases h : d * a ≤ s * b
    · have := mn2.1 h
      rw [if_pos (by grind), show max (S * B) (D * A) - min (S * B) (D * A) = S * B - D * A by omega]
      simp only [Rat.intCast_sub]; grind
    · have h2 : s * b ≤ d * a := by grind
      have := mn.1 h2
      rw [if_neg (by grind), show max (S * B) (D * A) - min (S * B) (D * A) = D * A - S * B by omega]
      simp only [Rat.intCast_sub]; grind
  · simp only [Rat.intCast_mul, Rat.intCast_add, Rat.intCast_sub, Rat.intCast_ofNat]; grind
end
end Iv
end
section
/- Plain law: a term's enclosure and the exact blend term of samples. -/
namespace Iv
open Bz
section
variable {N k w S A D B : Int}
theorem limit_rng (X : I) : 0 ≤ (limit X 0 1099511627776).lo ∧ (limit X 0 1099511627776).lo ≤ 1099511627776 ∧ 0 ≤ (limit X 0 1099511627776).hi ∧ (limit X 0 1099511627776).hi ≤ 1099511627776 := by
  simp only [limit]; omega
/-- Two numbers in the root's interval, below and above the root. -/
theorem roots {X : I} {d b : Rat} (h2 : Pt d b) (hX : In X (d * b)) (hb : 0 ≤ X.lo ∧ X.lo ≤ 1099511627776 ∧ 0 ≤ X.hi ∧ X.hi ≤ 1099511627776) :
    (∃ r, In (sqrt X) r ∧ 0 ≤ r ∧ r ≤ b ∧ r * r ≤ d * b) ∧ ∃ r, In (sqrt X) r ∧ 0 ≤ r ∧ r ≤ b ∧ d * b ≤ r * r := by
  obtain ⟨d0, db, b1⟩ := h2
  have b0 : 0 ≤ b := by grind
  obtain ⟨l0, l1⟩ := root_lo hX hb.1 hb.2.1
  obtain ⟨g0, g1⟩ := root_hi hX hb.2.2.1 hb.2.2.2
  have le : ((sqrt X).lo : Rat) ≤ ((sqrt X).hi : Rat) := le_of_sq g0 (Rat.le_trans l1 g1)
  have dbb : d * b ≤ b * b := Rat.mul_le_mul_of_nonneg_right db b0
  have u0 : (0 : Rat) < 1099511627776 := by grind
  have lb : ((sqrt X).lo : Rat) ≤ b * 1099511627776 := le_of_sq (by grind) (by grind)
  have lu : ((sqrt X).lo : Rat) / 1099511627776 * 1099511627776 = (sqrt X).lo := Rat.div_mul_cancel (by grind)
  have hu : ((sqrt X).hi : Rat) / 1099511627776 * 1099511627776 = (sqrt X).hi := Rat.div_mul_cancel (by grind)
  unfold In
  generalize ((sqrt X).lo : Rat) = lo at *
  generalize ((sqrt X).hi : Rat) = hi at *
  generalize lo / 1099511627776 = rl at *
  generalize hi / 1099511627776 = rh at *
  subst lu hu
  have r0 : 0 ≤ rl := rat_le_of_mul u0 (by grind)
  have r1 : 0 ≤ rh := rat_le_of_mul u0 (by grind)
  have r2 : rl ≤ b := rat_le_of_mul u0 lb
  have uu : (0 : Rat) < 1099511627776 * 1099511627776 := Rat.mul_pos u0 u0
  have r3 : rl * rl ≤ d * b := rat_le_of_mul uu (by grind)
  have r4 : d * b ≤ rh * rh := rat_le_of_mul uu (by grind)
  have r5 : rl ≤ rh := rat_le_of_mul u0 le
  refine ⟨⟨rl, ⟨Rat.le_refl, le⟩, r0, r2, r3⟩, ?_⟩
  rcases Rat.le_total (a := rh) (b := b) with h | h
  · exact ⟨rh, ⟨le, Rat.le_refl⟩, r1, h, r4⟩
  · exact ⟨b, ⟨by grind, by grind⟩, b0, Rat.le_refl, dbb⟩
theorem soft_val (hN : 0 < N) (h1 : 0 ≤ S ∧ S ≤ A) (h2 : 0 ≤ D ∧ D ≤ B) (r : Rat) :
    (∃ P Den : Int, softZ S A D B = ⟨P, 0, 0, Den⟩ ∧ 0 < Den ∧ softv ((S : Rat) / N) ((A : Rat) / N) ((D : Rat) / N) ((B : Rat) / N) r * (N * N) * Den = P) ∨
    (softZ S A D B = ⟨2 * D * (A - S), 2 * S - A, D * B, 1⟩ ∧ 0 ≤ 2 * S - A ∧ ((A : Rat) / N < 2 * ((S : Rat) / N) ∧ (B : Rat) / N < 4 * ((D : Rat) / N)) ∧
      ∀ r : Rat, softv ((S : Rat) / N) ((A : Rat) / N) ((D : Rat) / N) ((B : Rat) / N) r * (N * N) = ((2 * D * (A - S) : Int) : Rat) + ((2 * S - A : Int) : Rat) * (r * N)) := by
  have n0 : (0 : Rat) < N := by simpa using Rat.intCast_lt_intCast.2 hN
  have e1 : (S : Rat) / N * N = S := Rat.div_mul_cancel (by grind)
  have e2 : (A : Rat) / N * N = A := Rat.div_mul_cancel (by grind)
  have e3 : (D : Rat) / N * N = D := Rat.div_mul_cancel (by grind)
  have e4 : (B : Rat) / N * N = B := Rat.div_mul_cancel (by grind)
  generalize (S : Rat) / N = s at *
  generalize (A : Rat) / N = a at *
  generalize (D : Rat) / N = d at *
  generalize (B : Rat) / N = b at *
  have c1 : 2 * s ≤ a ↔ 2 * S ≤ A := by
    have : ((2 * S : Int) : Rat) = 2 * s * N := by simp only [Rat.intCast_mul, Rat.intCast_ofNat]; grind
    constructor
    · intro h
      have := Rat.mul_le_mul_of_nonneg_right h (Rat.le_of_lt n0)
      exact of_cast_le (by grind)
    · intro h
      have := cast_le h
      exact rat_le_of_mul n0 (by grind)
  have c2 : 4 * d ≤ b ↔ 4 * D ≤ B := by
    have : ((4 * D : Int) : Rat) = 4 * d * N := by simp only [Rat.intCast_mul, Rat.intCast_ofNat]; grind
    constructor
    · intro h
      have := Rat.mul_le_mul_of_nonneg_right h (Rat.le_of_lt n0)
      exact of_cast_le (by grind)
    · intro h
      have := cast_le h
      exact rat_le_of_mul n0 (by grind)
  have c3 : b = 0 ↔ B = 0 := by
    constructor
    · intro h
      have : (B : Rat) = ((0 : Int) : Rat) := by rw [Rat.intCast_zero]; grind
      exact Rat.intCast_inj.1 this
    · intro h
      rw [h] at e4
      simp only [Rat.intCast_zero] at e4
      exact (Rat.mul_eq_zero.1 e4).resolve_right (by grind)
  unfold softv softZ
  by_cases hB : B = 0
  · left
    have hb := c3.2 hB
    have hD : D = 0 := by omega
    have hd : d = 0 := by
      rw [hD] at e3
      simp only [Rat.intCast_zero] at e3
      exact (Rat.mul_eq_zero.1 e3).resolve_right (by grind)
    rw [if_pos hB]
    refine ⟨0, 1, rfl, by decide, ?_⟩
    rw [hd, hb]
    simp only [Rat.intCast_zero, Rat.intCast_one]
    split
    · simp; grind
    · rw [if_pos (by grind)]; simp; grind
  · rw [if_neg hB]
    have hb : ¬ b = 0 := fun e => hB (c3.1 e)
    by_cases hS : 2 * S ≤ A
    · left
      rw [if_pos hS, if_pos (c1.2 hS), if_neg hb]
      refine ⟨_, _, rfl, by omega, ?_⟩
      have e5 : d * (b - d) / b * b = d * (b - d) := Rat.div_mul_cancel hb
      simp only [Rat.intCast_mul, Rat.intCast_sub, Rat.intCast_ofNat]
      rw [← e1, ← e2, ← e3, ← e4]
      generalize d * (b - d) / b = q at *
      clear c1 c2 c3 e1 e2 e3 e4
      grind
    · rw [if_neg hS, if_neg (fun e => hS (c1.1 e))]
      by_cases h4 : 4 * D ≤ B
      · left
        rw [if_pos h4, if_pos (c2.2 h4), if_neg hb]
        refine ⟨_, _, rfl, Int.mul_pos (by omega) (by omega), ?_⟩
        have e5 : d / b * b = d := Rat.div_mul_cancel hb
        simp only [Rat.intCast_mul, Rat.intCast_sub, Rat.intCast_add, Rat.intCast_ofNat]
        rw [← e1, ← e2, ← e3, ← e4]
        generalize d / b = q at *
        clear c1 c2 c3 e1 e2 e3 e4
        subst e5
        grind
      · right
        rw [if_neg h4]
        refine ⟨rfl, by omega, ⟨?_, ?_⟩, fun r => ?_⟩
        · have := fun e => hS (c1.1 e); grind
        · have := fun e => h4 (c2.1 e); grind
        · rw [if_neg (fun e => hS (c1.1 e)), if_neg (fun e => h4 (c2.1 e))]
          simp only [Rat.intCast_mul, Rat.intCast_sub, Rat.intCast_ofNat]
          rw [← e1, ← e2, ← e3]
          clear c1 c2 c3 e1 e2 e3 e4
          grind
theorem scale_le {r d b n x y : Rat} (e3 : d * n = x) (e4 : b * n = y) (nn : 0 ≤ n * n) (h : r * r ≤ d * b) : r * n * (r * n) ≤ x * y := by
  subst e3 e4
  have := Rat.mul_le_mul_of_nonneg_right h nn
  grind
theorem scale_ge {r d b n x y : Rat} (e3 : d * n = x) (e4 : b * n = y) (nn : 0 ≤ n * n) (h : d * b ≤ r * r) : x * y ≤ r * n * (r * n) := by
  subst e3 e4
  have := Rat.mul_le_mul_of_nonneg_right h nn
  grind
/-- **The enclosure of a term of samples agrees with the exact term, as the law compares them.** -/
theorem between_ok {m : Int} (hm : 1 ≤ m ∧ m ≤ 12 ∧ m ≠ 7 ∧ m ≠ 8) (hN : 0 < N) (hk : 0 < k) (hw : 0 < w) (hU : N * N * k * w = 1099511627776)
    (h1 : 0 ≤ S ∧ S ≤ A ∧ A ≤ N) (h2 : 0 ≤ D ∧ D ≤ B ∧ B ≤ N) {IS IA ID IB : I} (hs : In IS ((S : Rat) / N)) (ha : In IA ((A : Rat) / N)) (hd : In ID ((D : Rat) / N)) (hb : In IB ((B : Rat) / N)) :
    0 ≤ cx ((blZ m S A D B).P * k) ((blZ m S A D B).Q * k) (blZ m S A D B).R (blZ m S A D B).Den (max (Term m IS IA ID IB).lo 0 / w) ∧
    cx ((blZ m S A D B).P * k) ((blZ m S A D B).Q * k) (blZ m S A D B).R (blZ m S A D B).Den ((max (Term m IS IA ID IB).hi 0 + w - 1) / w) ≤ 0 := by
  have q1 := Pt_of hN h1.1 h1.2.1 h1.2.2
  have q2 := Pt_of hN h2.1 h2.2.1 h2.2.2
  by_cases h10 : m = 10
  · subst h10
    have eb : blZ 10 S A D B = softZ S A D B := rfl
    rw [eb]
    have X1 := In_pair1 q2 hd hb
    have X2 := In_pair2 q2 hd hb
    have db0 := Rat.mul_nonneg q2.1 (show (0 : Rat) ≤ (B : Rat) / N from Rat.le_trans q2.1 q2.2.1)
    have db1 : (D : Rat) / N * ((B : Rat) / N) ≤ 1 := by
      have e1 : (D : Rat) / N * ((B : Rat) / N) ≤ 1 * ((B : Rat) / N) := Rat.mul_le_mul_of_nonneg_right (Rat.le_trans q2.2.1 q2.2.2) (Rat.le_trans q2.1 q2.2.1)
      have := q2.2.2
      grind
    have hX : In (limit (mul (pair1 ID IB) (pair2 ID IB)) 0 1099511627776) ((D : Rat) / N * ((B : Rat) / N)) := In_limit (In_mul X1 X2) (by simp only [Rat.intCast_zero]; grind) (by grind)
    obtain ⟨⟨rl, i1, i2, i3, i4⟩, rh, j1, j2, j3, j4⟩ := roots q2 hX (limit_rng _)
    have T := fun (r : Rat) (hr : In (sqrt (limit (mul (pair1 ID IB) (pair2 ID IB)) 0 1099511627776)) r ∧ 0 ≤ r ∧ r ≤ (B : Rat) / N) => In_Term (m := 10) (by omega) q1 q2 hs ha hd hb (fun _ _ _ => hr)
    have tr := fun (r : Rat) (hr : 0 ≤ r ∧ r ≤ (B : Rat) / N) => (tv_rng (m := 10) (by omega) q1 q2 (fun _ _ _ => hr)).1
    have ev : ∀ r, tv 10 ((S : Rat) / N) ((A : Rat) / N) ((D : Rat) / N) ((B : Rat) / N) r = softv ((S : Rat) / N) ((A : Rat) / N) ((D : Rat) / N) ((B : Rat) / N) r := fun _ => rfl
    simp only [ev] at T tr
    have n0 : (0 : Rat) < N := by simpa using Rat.intCast_lt_intCast.2 hN
    have e3 : (D : Rat) / N * N = D := Rat.div_mul_cancel (by grind)
    have e4 : (B : Rat) / N * N = B := Rat.div_mul_cancel (by grind)
    rcases soft_val hN ⟨h1.1, h1.2.1⟩ ⟨h2.1, h2.2.1⟩ rl with ⟨P, Den, hz, hD, hv⟩ | ⟨hz, hq, _, hv⟩
    · rw [hz]
      exact fin_q0 hw hU hD (T rl ⟨i1, i2, i3⟩) (tr rl ⟨i2, i3⟩) hv
    · rw [hz]
      have nn := Rat.le_of_lt (Rat.mul_pos n0 n0)
      constructor
      · refine fin_lo hw hk hU hq (T rl ⟨i1, i2, i3⟩) (tr rl ⟨i2, i3⟩) (hv rl) ?_
        simp only [Rat.intCast_mul]
        exact scale_le e3 e4 nn i4
      · refine fin_hi hw hk hU hq (T rh ⟨j1, j2, j3⟩) (Rat.mul_nonneg j2 (Rat.le_of_lt n0)) (hv rh) ?_
        simp only [Rat.intCast_mul]
        exact scale_ge e3 e4 nn j4
  · obtain ⟨P, hz, hv⟩ := tv_whole (S := S) (A := A) (D := D) (B := B) hN hm h10 0
    rw [hz]
    refine fin_q0 hw hU (Den := 1) (by decide) (In_Term (r := 0) hm q1 q2 hs ha hd hb (fun e => absurd e h10)) (tv_rng (r := 0) hm q1 q2 (fun e => absurd e h10)).1 ?_
    rw [hv, Rat.intCast_one, Rat.mul_one]; rfl
end
end Iv
end
section
/- Plain law: the terms of points are points, but for soft-light. -/
namespace Iv
def pc (n : Int) : I := ⟨n * 268435456, n * 268435456⟩
def Dot (X : I) : Prop := X.lo = X.hi
theorem dot_add {X Y : I} (h1 : Dot X) (h2 : Dot Y) : Dot (add X Y) := by unfold Dot add at *; simp only; omega
theorem dot_sub {X Y : I} (h1 : Dot X) (h2 : Dot Y) : Dot (sub X Y) := by unfold Dot sub at *; simp only; omega
theorem dot_least {X Y : I} (h1 : Dot X) (h2 : Dot Y) : Dot (least X Y) := by unfold Dot least at *; simp only; omega
theorem dot_most {X Y : I} (h1 : Dot X) (h2 : Dot Y) : Dot (most X Y) := by unfold Dot most at *; simp only; omega
theorem dot_abs {X : I} (h1 : Dot X) : Dot (absolute X) := by
  unfold Dot absolute at *
  split
  · exact h1
  · split
    · simp only; omega
    · simp only; omega
theorem dot_twice {X : I} (h : Dot X) : Dot (twice X) := dot_add h h
theorem dot_pieces {X Y P Q : I} {k : Int} (h1 : Dot X) (h2 : Dot Y) (h3 : Dot P) (h4 : Dot Q) : Dot (pieces X Y k P Q) := by
  unfold Dot pieces at *
  rw [h1, h2]
  split
  · split
    · omega
    · exact h3
  · exact h4
theorem pc_mul (n m : Int) : mul (pc n) (pc m) = ⟨n * m * 65536, n * m * 65536⟩ := by
  have e : n * 268435456 * (m * 268435456) = n * m * 65536 * 1099511627776 := by
    rw [Int.mul_assoc, ← Int.mul_assoc 268435456, Int.mul_comm 268435456 m, Int.mul_assoc m, ← Int.mul_assoc n, Int.mul_assoc (n * m)]; rfl
  have h1 := fl_mul (n * m * 65536) (d := 1099511627776) (by decide)
  have h2 := ce_mul (n * m * 65536) (d := 1099511627776) (by decide)
  simp only [mul, four, pc, e, h1, h2, Int.min_self, Int.max_self]
theorem dot_pc (n m : Int) : Dot (mul (pc n) (pc m)) := by rw [pc_mul]; rfl
theorem pc_sub (n m : Int) : sub (pc n) (pc m) = pc (n - m) := by
  simp only [sub, pc, Int.sub_mul]
theorem dot_pc0 (n : Int) : Dot (pc n) := rfl
theorem dot_limit {X : I} {h : Int} (hh : 0 ≤ h) (hX : Dot X) : Dot (limit X 0 h) := by unfold Dot limit at *; simp only; omega
theorem dot_Term {m S A D B : Int} (hm : 1 ≤ m ∧ m ≤ 12 ∧ m ≠ 7 ∧ m ≠ 8) (h10 : m ≠ 10) (h1 : 0 ≤ S ∧ S ≤ A ∧ A ≤ 4096) (h2 : 0 ≤ D ∧ D ≤ B ∧ B ≤ 4096) : Dot (Term m (pc S) (pc A) (pc D) (pc B)) := by
  have e1 : ∀ S A : Int, 0 ≤ S ∧ S ≤ A ∧ A ≤ 4096 → pair1 (pc S) (pc A) = pc S := fun S A h => by
    simp only [pair1, pc, I.mk.injEq]; omega
  have e2 : ∀ S A : Int, 0 ≤ S ∧ S ≤ A ∧ A ≤ 4096 → pair2 (pc S) (pc A) = pc A := fun S A h => by
    simp only [pair2, pc, I.mk.injEq]; omega
  unfold Term
  rw [e1 S A h1, e2 S A h1, e1 D B h2, e2 D B h2]
  have hab : 0 ≤ (mul (pc A) (pc B)).hi := by
    rw [pc_mul]
    have := Int.mul_nonneg (show 0 ≤ A by omega) (show 0 ≤ B by omega)
    show 0 ≤ A * B * 65536
    omega
  refine dot_limit hab ?_
  have hd : ∀ K L : Int, Dot (hard (pc S) (pc A) (pc D) (pc B) (pc K) (pc L)) := fun K L => by
    unfold hard
    rw [pc_sub, pc_sub]
    exact dot_pieces (dot_pc0 _) (dot_pc0 _) (dot_twice (dot_pc _ _)) (dot_sub (dot_pc _ _) (dot_twice (dot_pc _ _)))
  have cs : m = 1 ∨ m = 2 ∨ m = 3 ∨ m = 4 ∨ m = 5 ∨ m = 6 ∨ m = 9 ∨ m = 11 ∨ m = 12 := by omega
  rcases cs with e | e | e | e | e | e | e | e | e <;> subst e <;> simp only [term, Int.reduceEq, if_true, if_false]
  · exact dot_pc _ _
  · exact dot_pc _ _
  · rw [pc_sub]; exact dot_add (dot_pc _ _) (dot_pc _ _)
  · exact hd _ _
  · exact dot_least (dot_pc _ _) (dot_pc _ _)
  · exact dot_most (dot_pc _ _) (dot_pc _ _)
  · exact hd _ _
  · exact dot_abs (dot_sub (dot_pc _ _) (dot_pc _ _))
  · exact dot_sub (dot_add (dot_pc _ _) (dot_pc _ _)) (dot_twice (dot_pc _ _))
/-- A point as an interval. -/
theorem In_pc (n : Int) : In (pc n) ((n : Rat) / (4096 : Int)) := by
  have e : (n : Rat) / (4096 : Int) * (4096 : Int) = n := Rat.div_mul_cancel (by simp)
  simp only [Rat.intCast_ofNat] at e ⊢
  unfold In pc
  simp only [Rat.intCast_mul, Rat.intCast_ofNat]
  generalize (n : Rat) / 4096 = x at *
  constructor <;> grind
end Iv
end
section
/- Plain law: bounds of the intervals. -/
namespace Iv
open Bz
def Bd (X : I) (k : Int) : Prop := -(k * 1099511627776) ≤ X.lo ∧ X.lo ≤ X.hi ∧ X.hi ≤ k * 1099511627776
section
variable {X Y A B S D K L P Q : I} {i j k : Int}
theorem Bd.vd (h : Bd X k) (hk : k ≤ 16) : Vd X := by unfold Bd Vd at *; omega
theorem Bd.up (h : Bd X i) (hk : i ≤ k) : Bd X k := by unfold Bd at *; omega
theorem bd_add (h1 : Bd X i) (h2 : Bd Y j) : Bd (add X Y) (i + j) := by unfold Bd add at *; simp only; omega
theorem bd_sub (h1 : Bd X i) (h2 : Bd Y j) : Bd (sub X Y) (i + j) := by unfold Bd sub at *; simp only; omega
theorem bd_twice (h1 : Bd X i) : Bd (twice X) (i + i) := bd_add h1 h1
theorem bd_hull (h1 : Bd X i) (h2 : Bd Y i) : Bd (hull X Y) i := by unfold Bd hull at *; simp only; omega
theorem bd_least (h1 : Bd X i) (h2 : Bd Y i) : Bd (least X Y) i := by unfold Bd least at *; simp only; omega
theorem bd_most (h1 : Bd X i) (h2 : Bd Y i) : Bd (most X Y) i := by unfold Bd most at *; simp only; omega
theorem bd_abs (h1 : Bd X i) : Bd (absolute X) i := by
  unfold Bd absolute at *
  split
  · exact h1
  · split
    · simp only; omega
    · simp only; omega
theorem bd_limit {l h : Int} (h1 : X.lo ≤ X.hi) (hl : l ≤ h) (a : -(k * 1099511627776) ≤ l) (b : h ≤ k * 1099511627776) : Bd (limit X l h) k := by unfold Bd limit; simp only; omega
theorem bd_unit (h1 : X.lo ≤ X.hi) : Bd (limit X 0 1099511627776) 1 := bd_limit h1 (by decide) (by decide) (by decide)
theorem abs_mul_le {a b x y : Int} (h1 : -x ≤ a) (h2 : a ≤ x) (h3 : -y ≤ b) (h4 : b ≤ y) : -(x * y) ≤ a * b ∧ a * b ≤ x * y := by
  have x0 : 0 ≤ x := by omega
  have y0 : 0 ≤ y := by omega
  have k1 := Int.mul_nonneg (show 0 ≤ x - a by omega) (show 0 ≤ y + b by omega)
  have k2 := Int.mul_nonneg (show 0 ≤ x + a by omega) (show 0 ≤ y - b by omega)
  have k3 := Int.mul_nonneg (show 0 ≤ x - a by omega) (show 0 ≤ y - b by omega)
  have k4 := Int.mul_nonneg (show 0 ≤ x + a by omega) (show 0 ≤ y + b by omega)
  simp only [Int.sub_mul, Int.mul_sub, Int.add_mul, Int.mul_add] at k1 k2 k3 k4
  omega
theorem fl_ge {n d c : Int} (hd : 0 < d) (h : c * d ≤ n) : c ≤ fl n d := by unfold fl; exact (Int.le_ediv_iff_mul_le hd).2 h
theorem ce_le {n d c : Int} (hd : 0 < d) (h : n ≤ c * d) : ce n d ≤ c := by
  have := fl_ge (n := -n) (c := -c) hd (by rw [Int.neg_mul]; omega)
  unfold fl at this
  unfold ce
  omega
theorem bd_mul (h1 : Bd X i) (h2 : Bd Y j) : Bd (mul X Y) (i * j) := by
  have U0 : (0 : Int) < 1099511627776 := by decide
  obtain ⟨a1, a2, a3⟩ := h1
  obtain ⟨b1, b2, b3⟩ := h2
  have key : ∀ a b : Int, -(i * 1099511627776) ≤ a → a ≤ i * 1099511627776 → -(j * 1099511627776) ≤ b → b ≤ j * 1099511627776 → -(i * j * 1099511627776) ≤ fl (a * b) 1099511627776 ∧ fl (a * b) 1099511627776 ≤ ce (a * b) 1099511627776 ∧ ce (a * b) 1099511627776 ≤ i * j * 1099511627776 := by
    intro a b c1 c2 c3 c4
    obtain ⟨m1, m2⟩ := abs_mul_le c1 c2 c3 c4
    have e : i * 1099511627776 * (j * 1099511627776) = i * j * 1099511627776 * 1099511627776 := by
      rw [Int.mul_assoc, ← Int.mul_assoc 1099511627776, Int.mul_comm 1099511627776 j, Int.mul_assoc j, ← Int.mul_assoc i, Int.mul_assoc (i * j)]
    rw [e] at m1 m2
    refine ⟨fl_ge U0 (by rw [Int.neg_mul]; exact m1), fl_le_ce U0, ce_le U0 m2⟩
  have q1 := key X.lo Y.lo a1 (by omega) b1 (by omega)
  have q2 := key X.lo Y.hi a1 (by omega) (by omega) b3
  have q3 := key X.hi Y.lo (by omega) a3 b1 (by omega)
  have q4 := key X.hi Y.hi (by omega) a3 (by omega) b3
  unfold Bd
  simp only [mul, four]
  omega
theorem bd_pieces (h1 : Bd P i) (h2 : Bd Q i) : Bd (pieces K L k P Q) i := by
  unfold pieces
  split
  · split
    · exact bd_hull h1 h2
    · exact h1
  · exact h2
theorem bd_part (hx : 0 ≤ X.hi ∧ X.hi ≤ 1099511627776) (hy : 0 ≤ Y.hi ∧ Y.hi ≤ 1099511627776) : Bd (part X Y B) 1 := by
  unfold part
  split
  · rename_i h
    exact bd_limit h.2.1 (by omega) (by decide) (by omega)
  · unfold Bd; simp only; omega
theorem isq_le {n c : Nat} (h : n < 340282366920938463463374607431768211456) (hc : n ≤ c * c) : isq n ≤ c := by
  obtain ⟨g1, _⟩ := isq_spec h
  exact Nat.mul_self_le_mul_self_iff.1 (Nat.le_trans g1 hc)
theorem csq_le {n c : Nat} (h : n < 340282366920938463463374607431768211456) (hc : n ≤ c * c) : csq n ≤ c := by
  have g := isq_le h hc
  unfold csq
  split
  · rename_i hl
    rcases Nat.lt_or_ge (isq n) c with h' | h'
    · exact h'
    · have : isq n = c := by omega
      rw [this] at hl; omega
  · exact g
theorem isq_csq {n m : Nat} (h : n < 340282366920938463463374607431768211456) (h' : m < 340282366920938463463374607431768211456) (hnm : n ≤ m) : isq n ≤ csq m := by
  obtain ⟨g1, _⟩ := isq_spec h
  have g2 := csq_spec h'
  exact Nat.mul_self_le_mul_self_iff.1 (Nat.le_trans g1 (Nat.le_trans hnm g2))
theorem bd_sqrt (h : 0 ≤ X.lo ∧ X.lo ≤ X.hi ∧ X.hi ≤ 1099511627776) : Bd (sqrt X) 1 := by
  have a1 := csq_le (n := (X.hi * 1099511627776).toNat) (c := 1099511627776) (by omega) (by omega)
  have a2 := isq_csq (n := (X.lo * 1099511627776).toNat) (m := (X.hi * 1099511627776).toNat) (by omega) (by omega) (by omega)
  unfold Bd
  simp only [sqrt]
  omega
end
/-- What the pairs are: intervals within 0 and 1. -/
def In01 (X : I) : Prop := 0 ≤ X.lo ∧ X.lo ≤ X.hi ∧ X.hi ≤ 1099511627776
theorem In01.bd {X : I} (h : In01 X) : Bd X 1 := by unfold In01 Bd at *; omega
end Iv
end
