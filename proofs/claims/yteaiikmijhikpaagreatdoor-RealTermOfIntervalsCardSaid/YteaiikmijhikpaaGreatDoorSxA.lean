/- What the abstract values and a region's operations mean, and that the run of one operation on abstract values is that of the model, for every program. -/
import Derived.Calls
import Derived.Orders
import Derived.Below
import Derived.Laws.Cells
import Derived.Laws.Entries
import Derived.ChangeKeysEq
import Derived.Laws.Externs
set_option linter.all false
section
namespace Go.Sx
open Go

/-- Go data as plain trees. -/
inductive D where
  | int (n : Int)
  | bool (b : Bool)
  | str (s : ByteArray)
  | nil
  | list (rows : List (List D))
  deriving Inhabited

def D.toInt : D → Int | .int n => n | _ => 0
def D.toBool : D → Bool | .bool b => b | _ => false
def D.toStr : D → ByteArray | .str s => s | _ => ByteArray.empty
def D.rows : D → List (List D) | .list r => r | _ => []

inductive Ar where | add | sub | mul | quo | rem | and | or | xor | andNot | shl | shr
  deriving DecidableEq
inductive Cm where | eq | ne | lt | le | gt | ge
  deriving DecidableEq

inductive Xt where | adds | addc | subs | subb
  deriving DecidableEq

inductive Prim where
  | ar (o : Ar) (k : IntKind)
  | wrap (k : IntKind)
  | mn | mx
  | cm (o : Cm)
  | not | beq
  | seq                       -- equality of strings
  | sat                       -- a byte of a string
  | slen                      -- the length of a string
  | ite
  | len
  | cell (c : Nat)
  | row (n : Nat)             -- a row of n atoms, as a list of one row
  | mat (n k : Nat)           -- n rows of k atoms
  | cat
  | take | drop
  | setCell (c : Nat)
  | xt (o : Xt)
  | call (c j : Nat)
  deriving DecidableEq

def bitsOf (o : Ar) (k : IntKind) (x y : Int) : Int :=
  let a := BitVec.ofInt k.bits x
  let b := BitVec.ofInt k.bits y
  match o with
  | .and => k.wrap (a &&& b).toNat
  | .or => k.wrap (a ||| b).toNat
  | .xor => k.wrap (a ^^^ b).toNat
  | _ => k.wrap (a &&& ~~~b).toNat

def Ar.eval (o : Ar) (k : IntKind) (x y : Int) : Int :=
  match o with
  | .add => k.wrap (x + y)
  | .sub => k.wrap (x - y)
  | .mul => k.wrap (x * y)
  | .quo => k.wrap (x.tdiv y)
  | .rem => x.tmod y
  | .shl => k.wrap (x * 2 ^ (min y.toNat k.bits))
  | .shr => x.fdiv (2 ^ (min y.toNat k.bits))
  | o => bitsOf o k x y

def Cm.eval (o : Cm) (x y : Int) : Bool :=
  match o with
  | .eq => x == y
  | .ne => x != y
  | .lt => decide (x < y)
  | .le => decide (x ≤ y)
  | .gt => decide (x > y)
  | .ge => decide (x ≥ y)

/-- Sums and differences of 64 bits with a carry. -/
def Xt.eval (o : Xt) (x y c : Int) : Int :=
  match o with
  | .adds => ((x.toNat + y.toNat + c.toNat) % 18446744073709551616 : Nat)
  | .addc => ((x.toNat + y.toNat + c.toNat) / 18446744073709551616 : Nat)
  | .subs => ((x.toNat + 18446744073709551616 - y.toNat - c.toNat) % 18446744073709551616 : Nat)
  | .subb => if x.toNat < y.toNat + c.toNat then 1 else 0

/-- What the contracts' functions answer: contract c, arguments, the leaves of its results. -/
abbrev Fns := Nat → List D → List D

def Prim.eval (F : Fns) : Prim → List D → D
  | .ar o k, [x, y] => .int (o.eval k x.toInt y.toInt)
  | .wrap k, [x] => .int (k.wrap x.toInt)
  | .mn, [x, y] => .int (if y.toInt < x.toInt then y.toInt else x.toInt)
  | .mx, [x, y] => .int (if y.toInt > x.toInt then y.toInt else x.toInt)
  | .cm o, [x, y] => .bool (o.eval x.toInt y.toInt)
  | .not, [x] => .bool (!x.toBool)
  | .beq, [x, y] => .bool (x.toBool == y.toBool)
  | .seq, [x, y] => .bool (x.toStr.data.toList == y.toStr.data.toList)
  | .sat, [x, i] => .int ((x.toStr.data.toList.getD i.toInt.toNat 0).toNat : Int)
  | .slen, [x] => .int (x.toStr.data.toList.length : Int)
  | .ite, [b, x, y] => if b.toBool then x else y
  | .len, [d] => .int d.rows.length
  | .cell c, [d, i] => (d.rows.getD i.toInt.toNat []).getD c default
  | .row _, l => .list [l]
  | .mat n k, l => .list ((List.range n).map fun i => (l.drop (i * k)).take k)
  | .cat, [x, y] => .list (x.rows ++ y.rows)
  | .take, [d, n] => .list (d.rows.take n.toInt.toNat)
  | .drop, [d, n] => .list (d.rows.drop n.toInt.toNat)
  | .setCell c, [d, i, x] => .list (d.rows.modify i.toInt.toNat (·.set c x))
  | .xt o, [x, y, c] => .int (o.eval x.toInt y.toInt c.toInt)
  | .call c j, l => (F c l).getD j default
  | _, _ => default

/-- Terms. -/
inductive T where
  | v (i : Nat)
  | lit (d : D)
  | app (p : Prim) (l : List T)
  deriving Inhabited

/-- Equal by sight. -/
def D.same : D → D → Bool
  | .int a, .int b => a == b
  | .bool a, .bool b => a == b
  | _, _ => false
theorem D.same_eq {a b : D} (h : a.same b = true) : a = b := by
  cases a <;> cases b <;> simp_all [D.same]
mutual
def T.same : T → T → Bool
  | .v i, .v j => i == j
  | .lit a, .lit b => a.same b
  | .app p l, .app q m => p == q && T.sames l m
  | _, _ => false
def T.sames : List T → List T → Bool
  | [], [] => true
  | a :: l, b :: m => a.same b && T.sames l m
  | _, _ => false
end
mutual
theorem T.same_eq : ∀ {a b : T}, a.same b = true → a = b
  | .v i, .v j, h => by simpa [T.same] using h
  | .lit a, .lit b, h => by simp only [T.same] at h; rw [D.same_eq h]
  | .app p l, .app q m, h => by
    simp only [T.same, Bool.and_eq_true, beq_iff_eq] at h
    rw [h.1, T.sames_eq h.2]
  | .v _, .lit _, h | .v _, .app _ _, h | .lit _, .v _, h | .lit _, .app _ _, h | .app _ _, .v _, h | .app _ _, .lit _, h => by simp [T.same] at h
theorem T.sames_eq : ∀ {l m : List T}, T.sames l m = true → l = m
  | [], [], _ => rfl
  | a :: l, b :: m, h => by
    simp only [T.sames, Bool.and_eq_true] at h
    rw [T.same_eq h.1, T.sames_eq h.2]
  | [], _ :: _, h => by simp [T.sames] at h
  | _ :: _, [], h => by simp [T.sames] at h
end

mutual
def T.eval (F : Fns) (η : List D) : T → D
  | .v i => η.getD i default
  | .lit d => d
  | .app p l => p.eval F (T.evals F η l)
def T.evals (F : Fns) (η : List D) : List T → List D
  | [] => []
  | t :: l => t.eval F η :: T.evals F η l
end

def T.lits : List T → Option (List D)
  | [] => some []
  | .lit d :: l => (T.lits l).map (d :: ·)
  | _ => none

def Prim.folds : Prim → Bool
  | .call .. => false
  | _ => true

/-- An application, computed where all is known. -/
def T.mk (p : Prim) (l : List T) : T :=
  if p.folds then
    match T.lits l with
    | some ds => .lit (p.eval (fun _ _ => []) ds)
    | none => .app p l
  else .app p l

theorem T.evals_lits {F : Fns} {η : List D} : ∀ {l : List T} {ds : List D}, T.lits l = some ds → T.evals F η l = ds
  | [], ds, h => by simp only [T.lits, Option.some.injEq] at h; simp [T.evals, ← h]
  | .lit d :: l, ds, h => by
    simp only [T.lits, Option.map_eq_some_iff] at h
    obtain ⟨x, hx, rfl⟩ := h
    simp [T.evals, T.eval, T.evals_lits hx]
  | .v _ :: _, _, h => by simp [T.lits] at h
  | .app _ _ :: _, _, h => by simp [T.lits] at h

theorem Prim.eval_folds {F G : Fns} {p : Prim} (h : p.folds = true) (l : List D) : p.eval F l = p.eval G l := by
  cases p <;> first | (simp [Prim.folds] at h; done) | (simp only [Prim.eval]; done) | (rcases l with _ | ⟨a, _ | ⟨b, _ | ⟨c, _ | _⟩⟩⟩ <;> rfl)

theorem T.eval_mk {F : Fns} {η : List D} (p : Prim) (l : List T) : (T.mk p l).eval F η = p.eval F (T.evals F η l) := by
  unfold T.mk
  split
  · rename_i hp
    split
    · rename_i ds h
      simp only [T.eval]
      rw [T.evals_lits h]; exact Prim.eval_folds hp ds
    · rfl
  · rfl

end Go.Sx
end
section
namespace Go.Sx
open Go

/-- The kind of a cell that data fills. -/
inductive Ty where
  | int (k : IntKind)
  | bool
  | str
  | sl (row : List Ty)
  deriving Inhabited

mutual
def Ty.same : Ty → Ty → Bool
  | .int k, .int k' => k == k'
  | .bool, .bool => true
  | .str, .str => true
  | .sl r, .sl r' => Ty.sames r r'
  | _, _ => false
def Ty.sames : List Ty → List Ty → Bool
  | [], [] => true
  | a :: l, b :: m => a.same b && Ty.sames l m
  | _, _ => false
end
mutual
theorem Ty.same_eq : ∀ {a b : Ty}, a.same b = true → a = b
  | .int _, .int _, h => by simp only [Ty.same, beq_iff_eq] at h; rw [h]
  | .bool, .bool, _ => rfl
  | .str, .str, _ => rfl
  | .sl r, .sl r', h => by simp only [Ty.same] at h; rw [Ty.sames_eq h]
  | .int _, .bool, h | .int _, .str, h | .int _, .sl _, h | .bool, .int _, h | .bool, .str, h | .bool, .sl _, h
  | .str, .int _, h | .str, .bool, h | .str, .sl _, h | .sl _, .int _, h | .sl _, .bool, h | .sl _, .str, h => by simp [Ty.same] at h
theorem Ty.sames_eq : ∀ {l m : List Ty}, Ty.sames l m = true → l = m
  | [], [], _ => rfl
  | a :: l, b :: m, h => by
    simp only [Ty.sames, Bool.and_eq_true] at h
    rw [Ty.same_eq h.1, Ty.sames_eq h.2]
  | [], _ :: _, h => by simp [Ty.sames] at h
  | _ :: _, [], h => by simp [Ty.sames] at h
end

mutual
/-- In the world w the value u reads as the data d, in no block of O. -/
def Reads (w : World) (O : Nat → Prop) : Ty → D → Value → Prop
  | .int k, d, u => u = .int k d.toInt
  | .bool, d, u => u = .bool d.toBool
  | .str, d, u => u = .string d.toStr
  | .sl row, d, u => ∃ a cap, u = .slice a d.rows.length cap ∧ d.rows.length ≤ cap ∧
      match a with
      | none => d.rows = [] ∧ cap = 0
      | some a => a.spot = none ∧ ¬ O a.block ∧ a.block < w.heap.size ∧
          ∀ i, i < d.rows.length → ReadsRow w O row (d.rows.getD i []) a.block (a.off + i * row.length)
def ReadsRow (w : World) (O : Nat → Prop) : List Ty → List D → Nat → Nat → Prop
  | [], _, _, _ => True
  | t :: ts, ds, b, o => (∃ u, w.cell? ⟨b, o, none⟩ = some u ∧ Reads w O t (ds.headD default) u) ∧ ReadsRow w O ts ds.tail b (o + 1)
end

mutual
theorem Reads.mono {w w' : World} {O O' : Nat → Prop} (hs : w.heap.size ≤ w'.heap.size)
    (h : ∀ k, k < w.heap.size → ¬ O k → w'.heap[k]? = w.heap[k]? ∧ ¬ O' k) : ∀ {t : Ty} {d : D} {u : Value}, Reads w O t d u → Reads w' O' t d u
  | .int _, _, _, hr => by simpa only [Reads] using hr
  | .bool, _, _, hr => by simpa only [Reads] using hr
  | .str, _, _, hr => by simpa only [Reads] using hr
  | .sl row, d, u, hr => by
    simp only [Reads] at hr ⊢
    obtain ⟨a, cap, hu, hn, ha⟩ := hr
    refine ⟨a, cap, hu, hn, ?_⟩
    cases a with
    | none => exact ha
    | some a =>
      obtain ⟨h1, h2, h3, h4⟩ := ha
      exact ⟨h1, (h _ h3 h2).2, Nat.lt_of_lt_of_le h3 hs, fun i hi => ReadsRow.mono hs h h2 h3 (h4 i hi)⟩
theorem ReadsRow.mono {w w' : World} {O O' : Nat → Prop} (hs : w.heap.size ≤ w'.heap.size)
    (h : ∀ k, k < w.heap.size → ¬ O k → w'.heap[k]? = w.heap[k]? ∧ ¬ O' k) : ∀ {ts : List Ty} {ds : List D} {b o : Nat}, ¬ O b → b < w.heap.size → ReadsRow w O ts ds b o → ReadsRow w' O' ts ds b o
  | [], _, _, _, _, _, _ => by simp only [ReadsRow]
  | t :: ts, ds, b, o, hb, hb2, hr => by
    simp only [ReadsRow] at hr ⊢
    obtain ⟨⟨u, hu, hru⟩, hrest⟩ := hr
    refine ⟨⟨u, ?_, Reads.mono hs h hru⟩, ReadsRow.mono hs h hb hb2 hrest⟩
    have := (h b hb2 hb).1
    simp only [World.cell?] at hu ⊢
    rw [this]; exact hu
end

/-- Values as the executor sees them. -/
inductive AV where
  | bad
  | int (k : IntKind) (t : T)
  | bool (t : T)
  | str (t : T)
  | ptr (b o : Nat)
  | gptr (g o : Nat)
  | eptr (row : List Ty) (d i : T) (o : Nat)
  | nilp
  | sl (row : List Ty) (d : T)
  | nsl
  | osl (b o n cap : Nat)
  | func (fn : Fn) (first captured : List AV)
  | nilf
  | agg (l : List AV)
  | tup (l : List AV)
  deriving Inhabited

/-- A block of the call's own. -/
inductive Blk where
  | dead
  | cells (l : List AV) (elem : TypeId)
  deriving Inhabited

/-- What stays the same during a run. -/
structure Ctx where
  P : Program
  F : Fns
  η : List D
  G : Nat → Option (List Value)
  O : Nat → Prop
  B : Nat
  w0 : World

section
variable (C : Ctx) (ρ : Nat → Option Nat) (O : Nat → Prop) (w : World)

mutual
def VR : AV → Value → Prop
  | .bad, _ => False
  | .int k t, u => u = .int k (t.eval C.F C.η).toInt
  | .bool t, u => u = .bool (t.eval C.F C.η).toBool
  | .str t, u => u = .string (t.eval C.F C.η).toStr
  | .ptr b o, u => ∃ k, ρ b = some k ∧ u = .pointer (some ⟨k, o, none⟩)
  | .gptr g o, u => u = .pointer (some ⟨g, o, none⟩)
  | .eptr row d i o, u => ∃ b s, u = .pointer (some ⟨b, s + o, none⟩) ∧ ¬ O b ∧ b < w.heap.size ∧
      ReadsRow w O row ((d.eval C.F C.η).rows.getD (i.eval C.F C.η).toInt.toNat []) b s
  | .nilp, u => u = .pointer none
  | .sl row d, u => Reads w O (.sl row) (d.eval C.F C.η) u
  | .nsl, u => u = .slice none 0 0
  | .osl b o n cap, u => ∃ k, ρ b = some k ∧ u = .slice (some ⟨k, o, none⟩) n cap
  | .func fn a c, u => ∃ x y, u = .func fn x y ∧ VRs a x.toList ∧ VRs c y.toList
  | .nilf, u => u = .nilFunc
  | .agg l, u => ∃ x, u = .agg x ∧ VRs l x.toList
  | .tup l, u => ∃ x, u = .tuple x ∧ VRs l x.toList
def VRs : List AV → List Value → Prop
  | [], [] => True
  | v :: l, u :: us => VR v u ∧ VRs l us
  | _, _ => False
end
end

mutual
theorem VR.mono {C : Ctx} {ρ ρ' : Nat → Option Nat} {O O' : Nat → Prop} {w w' : World} (hs : w.heap.size ≤ w'.heap.size)
    (h : ∀ k, k < w.heap.size → ¬ O k → w'.heap[k]? = w.heap[k]? ∧ ¬ O' k) (hρ : ∀ b k, ρ b = some k → ρ' b = some k) :
    ∀ {v : AV} {u : Value}, VR C ρ O w v u → VR C ρ' O' w' v u
  | .bad, _, hr => by simp only [VR] at hr
  | .int _ _, _, hr => by simpa only [VR] using hr
  | .bool _, _, hr => by simpa only [VR] using hr
  | .str _, _, hr => by simpa only [VR] using hr
  | .ptr b o, _, hr => by
    simp only [VR] at hr ⊢
    obtain ⟨k, h1, h2⟩ := hr
    exact ⟨k, hρ _ _ h1, h2⟩
  | .gptr g o, _, hr => by simpa only [VR] using hr
  | .eptr row d i o, _, hr => by
    simp only [VR] at hr ⊢
    obtain ⟨b, s, hu, h1, h2, h3⟩ := hr
    exact ⟨b, s, hu, (h _ h2 h1).2, Nat.lt_of_lt_of_le h2 hs, ReadsRow.mono hs h h1 h2 h3⟩
  | .nilp, _, hr => by simpa only [VR] using hr
  | .sl row d, _, hr => by simp only [VR] at hr ⊢; exact Reads.mono hs h hr
  | .nsl, _, hr => by simpa only [VR] using hr
  | .osl b o n cap, _, hr => by
    simp only [VR] at hr ⊢
    obtain ⟨k, h1, h2⟩ := hr
    exact ⟨k, hρ _ _ h1, h2⟩
  | .func fn a c, _, hr => by
    simp only [VR] at hr ⊢
    obtain ⟨x, y, hu, h1, h2⟩ := hr
    exact ⟨x, y, hu, VRs.mono hs h hρ h1, VRs.mono hs h hρ h2⟩
  | .nilf, _, hr => by simpa only [VR] using hr
  | .agg l, _, hr => by
    simp only [VR] at hr ⊢
    obtain ⟨x, hu, h1⟩ := hr
    exact ⟨x, hu, VRs.mono hs h hρ h1⟩
  | .tup l, _, hr => by
    simp only [VR] at hr ⊢
    obtain ⟨x, hu, h1⟩ := hr
    exact ⟨x, hu, VRs.mono hs h hρ h1⟩
theorem VRs.mono {C : Ctx} {ρ ρ' : Nat → Option Nat} {O O' : Nat → Prop} {w w' : World} (hs : w.heap.size ≤ w'.heap.size)
    (h : ∀ k, k < w.heap.size → ¬ O k → w'.heap[k]? = w.heap[k]? ∧ ¬ O' k) (hρ : ∀ b k, ρ b = some k → ρ' b = some k) :
    ∀ {l : List AV} {us : List Value}, VRs C ρ O w l us → VRs C ρ' O' w' l us
  | [], [], _ => by simp only [VRs]
  | v :: l, u :: us, hr => by
    simp only [VRs] at hr ⊢
    exact ⟨VR.mono hs h hρ hr.1, VRs.mono hs h hρ hr.2⟩
  | [], _ :: _, hr => by simp only [VRs] at hr
  | _ :: _, [], hr => by simp only [VRs] at hr
end


def Blk.live : Blk → Bool
  | .dead => false
  | _ => true

/-- The blocks that the call may still write, and those of its callers. -/
def Own (C : Ctx) (hl : Nat → Option Blk) (ρ : Nat → Option Nat) (k : Nat) : Prop :=
  C.O k ∨ ∃ b x, hl b = some x ∧ x.live = true ∧ ρ b = some k

/-- The call's own memory is as the executor has it, and nothing else has turned. -/
structure Hp (C : Ctx) (hl : Nat → Option Blk) (ρ : Nat → Option Nat) (w : World) : Prop where
  dom : ∀ b k, ρ b = some k → ∃ x, hl b = some x
  own : ∀ b k, ρ b = some k → C.B ≤ k ∧ k < w.heap.size
  inj : ∀ b b' x x' k, hl b = some x → hl b' = some x' → x.live = true → x'.live = true → ρ b = some k → ρ b' = some k → b = b'
  cells : ∀ b l e, hl b = some (.cells l e) → ∃ k cs, ρ b = some k ∧ w.heap[k]? = some (.cells cs e (0, 0)) ∧ VRs C ρ (Own C hl ρ) w l cs.toList
  below : Go.RowKit.Below C.B C.w0 w
  room : C.B ≤ w.heap.size

/-- From one state of the call's memory to a later one. -/
structure Adv (C : Ctx) (hl : Nat → Option Blk) (ρ : Nat → Option Nat) (w : World) (hl' : Nat → Option Blk) (ρ' : Nat → Option Nat) (w' : World) : Prop where
  size : w.heap.size ≤ w'.heap.size
  same : ∀ k, k < w.heap.size → ¬ Own C hl ρ k → w'.heap[k]? = w.heap[k]? ∧ ¬ Own C hl' ρ' k
  ext : ∀ b k, ρ b = some k → ρ' b = some k

theorem Adv.refl (C : Ctx) (hl : Nat → Option Blk) (ρ : Nat → Option Nat) (w : World) : Adv C hl ρ w hl ρ w :=
  ⟨Nat.le_refl _, fun _ _ h => ⟨rfl, h⟩, fun _ _ h => h⟩
theorem Adv.trans {C : Ctx} {h1 h2 h3 : Nat → Option Blk} {ρ1 ρ2 ρ3 : Nat → Option Nat} {w1 w2 w3 : World}
    (a : Adv C h1 ρ1 w1 h2 ρ2 w2) (b : Adv C h2 ρ2 w2 h3 ρ3 w3) : Adv C h1 ρ1 w1 h3 ρ3 w3 :=
  ⟨Nat.le_trans a.size b.size, fun k hk hn =>
    let ⟨e1, n1⟩ := a.same k hk hn
    let ⟨e2, n2⟩ := b.same k (Nat.lt_of_lt_of_le hk a.size) n1
    ⟨e2.trans e1, n2⟩, fun x k h => b.ext x k (a.ext x k h)⟩
theorem Adv.vr {C : Ctx} {hl hl' : Nat → Option Blk} {ρ ρ' : Nat → Option Nat} {w w' : World} (a : Adv C hl ρ w hl' ρ' w') {v : AV} {u : Value}
    (h : VR C ρ (Own C hl ρ) w v u) : VR C ρ' (Own C hl' ρ') w' v u := VR.mono a.size a.same a.ext h
theorem Adv.vrs {C : Ctx} {hl hl' : Nat → Option Blk} {ρ ρ' : Nat → Option Nat} {w w' : World} (a : Adv C hl ρ w hl' ρ' w') {v : List AV} {u : List Value}
    (h : VRs C ρ (Own C hl ρ) w v u) : VRs C ρ' (Own C hl' ρ') w' v u := VRs.mono a.size a.same a.ext h

def over (hl : Nat → Option Blk) (ws : List (Nat × Blk)) : Nat → Option Blk := fun b => (ws.lookup b).or (hl b)

/-- A new block. -/
theorem Hp.alloc {C : Ctx} {hl : Nat → Option Blk} {ρ : Nat → Option Nat} {w : World} (h : Hp C hl ρ w) {n : Nat} (hn : hl n = none)
    {l : List AV} {cs : Array Value} (e : TypeId) (hv : VRs C ρ (Own C hl ρ) w l cs.toList) :
    let hl' := over hl [(n, .cells l e)]
    let ρ' := fun b => if b = n then some w.heap.size else ρ b
    let w' := { w with heap := w.heap.push (.cells cs e (0, 0)) }
    Hp C hl' ρ' w' ∧ Adv C hl ρ w hl' ρ' w' := by
  intro hl' ρ' w'
  have hρn : ρ n = none := by
    cases hr : ρ n with
    | none => rfl
    | some k => obtain ⟨x, hx⟩ := h.dom n k hr; rw [hn] at hx; cases hx
  have hext : ∀ b k, ρ b = some k → ρ' b = some k := by
    intro b k hb
    have : b ≠ n := fun e => by rw [e, hρn] at hb; cases hb
    simp [ρ', this, hb]
  have hl'n : hl' n = some (.cells l e) := by simp [hl', over]
  have hl'o : ∀ b, b ≠ n → hl' b = hl b := fun b hb => by simp [hl', over, List.lookup, beq_false_of_ne hb]
  have hown : ∀ k, k < w.heap.size → (Own C hl' ρ' k ↔ Own C hl ρ k) := by
    intro k hk
    constructor
    · rintro (ho | ⟨b, x, hx, hlv, hb⟩)
      · exact .inl ho
      · by_cases hbn : b = n
        · simp only [ρ', hbn, if_true, Option.some.injEq] at hb; omega
        · rw [hl'o b hbn] at hx; simp only [ρ', hbn, if_false] at hb
          exact .inr ⟨b, x, hx, hlv, hb⟩
    · rintro (ho | ⟨b, x, hx, hlv, hb⟩)
      · exact .inl ho
      · have hbn : b ≠ n := fun e => by rw [e, hn] at hx; cases hx
        exact .inr ⟨b, x, by rw [hl'o b hbn]; exact hx, hlv, hext b k hb⟩
  have hadv : Adv C hl ρ w hl' ρ' w' := by
    refine ⟨by simp [w'], fun k hk hno => ⟨?_, fun ho => hno ((hown k hk).1 ho)⟩, hext⟩
    simp [w', Array.getElem?_push, Nat.ne_of_lt hk]
  refine ⟨⟨?_, ?_, ?_, ?_, ?_, ?_⟩, hadv⟩
  · intro b k hb
    by_cases hbn : b = n
    · exact ⟨_, hbn ▸ hl'n⟩
    · simp only [ρ', hbn, if_false] at hb
      rw [hl'o b hbn]; exact h.dom b k hb
  · intro b k hb
    by_cases hbn : b = n
    · simp only [ρ', hbn, if_true, Option.some.injEq] at hb
      subst hb
      exact ⟨h.room, by simp [w']⟩
    · simp only [ρ', hbn, if_false] at hb
      have := h.own b k hb
      exact ⟨this.1, by simp [w']; omega⟩
  · intro b b' x x' k hx hx' hlv hlv' hb hb'
    by_cases hbn : b = n <;> by_cases hbn' : b' = n
    · rw [hbn, hbn']
    · simp only [ρ', hbn, if_true, Option.some.injEq] at hb
      simp only [ρ', hbn', if_false] at hb'
      have := (h.own b' k hb').2; omega
    · simp only [ρ', hbn', if_true, Option.some.injEq] at hb'
      simp only [ρ', hbn, if_false] at hb
      have := (h.own b k hb).2; omega
    · rw [hl'o b hbn] at hx; rw [hl'o b' hbn'] at hx'
      simp only [ρ', hbn, if_false] at hb
      simp only [ρ', hbn', if_false] at hb'
      exact h.inj b b' x x' k hx hx' hlv hlv' hb hb'
  · intro b l' e' hb
    by_cases hbn : b = n
    · rw [hbn, hl'n] at hb
      simp only [Option.some.injEq, Blk.cells.injEq] at hb
      obtain ⟨rfl, rfl⟩ := hb
      exact ⟨w.heap.size, cs, by simp [ρ', hbn], by simp [w'], hadv.vrs hv⟩
    · rw [hl'o b hbn] at hb
      obtain ⟨k, cs', h1, h2, h3⟩ := h.cells b l' e' hb
      have hk := (h.own b k h1).2
      exact ⟨k, cs', hext b k h1, by simp [w', Array.getElem?_push, Nat.ne_of_lt hk, h2], hadv.vrs h3⟩
  · exact h.below.trans ⟨rfl, rfl, rfl, by simp [w'], fun k hk => by
      have := h.room
      have hk' : k ≠ w.heap.size := by omega
      simp [w', Array.getElem?_push, hk']⟩
  · have := h.room; simp [w']; omega

/-- The same blocks live: the same memory is the call's own. -/
theorem own_same {C : Ctx} {hl hl' : Nat → Option Blk} {ρ : Nat → Option Nat} (h : ∀ b, (∃ x, hl b = some x ∧ x.live = true) ↔ (∃ x, hl' b = some x ∧ x.live = true)) (k : Nat) :
    Own C hl' ρ k ↔ Own C hl ρ k := by
  constructor
  · rintro (ho | ⟨b, x, hx, hlv, hb⟩)
    · exact .inl ho
    · obtain ⟨y, hy, hyl⟩ := (h b).2 ⟨x, hx, hlv⟩
      exact .inr ⟨b, y, hy, hyl, hb⟩
  · rintro (ho | ⟨b, x, hx, hlv, hb⟩)
    · exact .inl ho
    · obtain ⟨y, hy, hyl⟩ := (h b).1 ⟨x, hx, hlv⟩
      exact .inr ⟨b, y, hy, hyl, hb⟩

/-- A block of the call's own is written. -/
theorem Hp.write {C : Ctx} {hl : Nat → Option Blk} {ρ : Nat → Option Nat} {w : World} (h : Hp C hl ρ w) {n k : Nat} {l l' : List AV} {e : TypeId} {cs' : Array Value}
    (hn : hl n = some (.cells l e)) (hk : ρ n = some k) (hv : VRs C ρ (Own C hl ρ) w l' cs'.toList) (w' : World)
    (hw : w'.heap.size = w.heap.size) (hkk : w'.heap[k]? = some (.cells cs' e (0, 0))) (hne : ∀ j, j ≠ k → w'.heap[j]? = w.heap[j]?)
    (hos : w'.os = w.os) (ht : w'.tape = w.tape) (hout : w'.output = w.output) :
    Hp C (over hl [(n, .cells l' e)]) ρ w' ∧ Adv C hl ρ w (over hl [(n, .cells l' e)]) ρ w' := by
  have hl'n : over hl [(n, .cells l' e)] n = some (.cells l' e) := by simp [over]
  have hl'o : ∀ b, b ≠ n → over hl [(n, .cells l' e)] b = hl b := fun b hb => by simp [over, List.lookup, beq_false_of_ne hb]
  have hown : ∀ j, Own C (over hl [(n, .cells l' e)]) ρ j ↔ Own C hl ρ j := own_same (by
    intro b
    by_cases hbn : b = n
    · subst hbn; rw [hl'n, hn]; simp [Blk.live]
    · rw [hl'o b hbn])
  have hko : Own C hl ρ k := .inr ⟨n, _, hn, rfl, hk⟩
  have hadv : Adv C hl ρ w (over hl [(n, .cells l' e)]) ρ w' :=
    ⟨Nat.le_of_eq hw.symm, fun j _ hno => ⟨hne j (fun e => hno (e ▸ hko)), fun ho => hno ((hown j).1 ho)⟩, fun _ _ h => h⟩
  refine ⟨⟨?_, ?_, ?_, ?_, ?_, ?_⟩, hadv⟩
  · intro b j hb
    by_cases hbn : b = n
    · rw [hbn]; exact ⟨_, hl'n⟩
    · rw [hl'o b hbn]; exact h.dom b j hb
  · intro b j hb; rw [hw]; exact h.own b j hb
  · intro b b' x x' j hx hx' hlv hlv' hb hb'
    by_cases hbn : b = n <;> by_cases hbn' : b' = n
    · rw [hbn, hbn']
    · subst hbn; rw [hl'o b' hbn'] at hx'
      exact h.inj b b' _ x' j hn hx' rfl hlv' hb hb'
    · subst hbn'; rw [hl'o b hbn] at hx
      exact h.inj b b' x _ j hx hn hlv rfl hb hb'
    · rw [hl'o b hbn] at hx; rw [hl'o b' hbn'] at hx'
      exact h.inj b b' x x' j hx hx' hlv hlv' hb hb'
  · intro b m e' hb
    by_cases hbn : b = n
    · subst hbn; rw [hl'n] at hb
      simp only [Option.some.injEq, Blk.cells.injEq] at hb
      obtain ⟨rfl, rfl⟩ := hb
      exact ⟨k, cs', hk, hkk, hadv.vrs hv⟩
    · rw [hl'o b hbn] at hb
      obtain ⟨j, cs, h1, h2, h3⟩ := h.cells b m e' hb
      have hjk : j ≠ k := fun e => hbn (h.inj b n _ _ k hb hn rfl rfl (e ▸ h1) hk)
      exact ⟨j, cs, h1, by rw [hne j hjk]; exact h2, hadv.vrs h3⟩
  · have hB := (h.own n k hk).1
    exact h.below.trans ⟨hos, ht, hout, Nat.le_of_eq hw.symm, fun j hj => hne j (by omega)⟩
  · rw [hw]; exact h.room

theorem VRs.length {C : Ctx} {ρ : Nat → Option Nat} {O : Nat → Prop} {w : World} : ∀ {l : List AV} {us : List Value}, VRs C ρ O w l us → l.length = us.length
  | [], [], _ => rfl
  | v :: l, u :: us, h => by simp only [VRs] at h; simp [VRs.length h.2]
  | [], _ :: _, h => by simp only [VRs] at h
  | _ :: _, [], h => by simp only [VRs] at h

theorem VRs.get {C : Ctx} {ρ : Nat → Option Nat} {O : Nat → Prop} {w : World} : ∀ {l : List AV} {us : List Value} {i : Nat} {v : AV}, VRs C ρ O w l us → l[i]? = some v → ∃ u, us[i]? = some u ∧ VR C ρ O w v u
  | v :: l, u :: us, 0, v', h, hi => by simp only [VRs] at h; simp only [List.getElem?_cons_zero, Option.some.injEq] at hi; subst hi; exact ⟨u, rfl, h.1⟩
  | v :: l, u :: us, i + 1, v', h, hi => by
    simp only [VRs] at h; simp only [List.getElem?_cons_succ] at hi ⊢
    exact VRs.get h.2 hi
  | [], [], _, _, _, hi => by simp at hi
  | [], _ :: _, _, _, h, _ => by simp only [VRs] at h
  | _ :: _, [], _, _, h, _ => by simp only [VRs] at h

theorem VRs.append {C : Ctx} {ρ : Nat → Option Nat} {O : Nat → Prop} {w : World} : ∀ {l m : List AV} {us vs : List Value}, VRs C ρ O w l us → VRs C ρ O w m vs → VRs C ρ O w (l ++ m) (us ++ vs)
  | [], _, [], _, _, h => by simpa using h
  | v :: l, _, u :: us, _, h, h' => by simp only [VRs, List.cons_append] at h ⊢; exact ⟨h.1, VRs.append h.2 h'⟩
  | [], _, _ :: _, _, h, _ => by simp only [VRs] at h
  | _ :: _, _, [], _, h, _ => by simp only [VRs] at h
theorem VRs.take {C : Ctx} {ρ : Nat → Option Nat} {O : Nat → Prop} {w : World} : ∀ {l : List AV} {us : List Value} (n : Nat), VRs C ρ O w l us → VRs C ρ O w (l.take n) (us.take n)
  | _, _, 0, _ => by simp [VRs]
  | [], [], n + 1, _ => by simp [VRs]
  | v :: l, u :: us, n + 1, h => by simp only [VRs, List.take_succ_cons] at h ⊢; exact ⟨h.1, VRs.take n h.2⟩
  | [], _ :: _, _ + 1, h => by simp only [VRs] at h
  | _ :: _, [], _ + 1, h => by simp only [VRs] at h
theorem VRs.drop {C : Ctx} {ρ : Nat → Option Nat} {O : Nat → Prop} {w : World} : ∀ {l : List AV} {us : List Value} (n : Nat), VRs C ρ O w l us → VRs C ρ O w (l.drop n) (us.drop n)
  | _, _, 0, h => by simpa using h
  | [], [], n + 1, _ => by simp [VRs]
  | v :: l, u :: us, n + 1, h => by simp only [VRs, List.drop_succ_cons] at h ⊢; exact VRs.drop n h.2
  | [], _ :: _, _ + 1, h => by simp only [VRs] at h
  | _ :: _, [], _ + 1, h => by simp only [VRs] at h
theorem VRs.rep {C : Ctx} {ρ : Nat → Option Nat} {O : Nat → Prop} {w : World} {l : List AV} {us : List Value} (h : VRs C ρ O w l us) : ∀ n, VRs C ρ O w (List.replicate n l).flatten (List.replicate n us).flatten
  | 0 => by simp [VRs]
  | n + 1 => by simp only [List.replicate_succ, List.flatten_cons]; exact h.append (VRs.rep h n)
end Go.Sx
end
section
namespace Go.Sx
open Go

/-- What has to hold on the way. -/
inductive Cond where
  | need (t : T)
  | pre (c : Nat) (l : List T)
  deriving Inhabited

/-- A run with the tests that are not decided, as a tree. -/
inductive X (α : Type) where
  | ret (a : α)
  | ask (t : T) (k : Bool → X α)
  | need (c : Cond) (k : X α)
  | fail (why : String)

namespace X
def pure {α : Type} (a : α) : X α := .ret a
def bind {α β : Type} : X α → (α → X β) → X β
  | .ret a, f => f a
  | .ask t k, f => .ask t fun b => (k b).bind f
  | .need c k, f => .need c (k.bind f)
  | .fail s, _ => .fail s
instance : Monad X where
  pure := X.pure
  bind := X.bind
def opt {α : Type} (s : String) : Option α → X α
  | some a => .ret a
  | none => .fail s
/-- A test, taken apart into its atoms. -/
def test : T → X Bool
  | .lit (.bool b) => .ret b
  | .app .not [x] => (test x).bind fun r => .ret !r
  | .app .ite [c, x, y] => (test c).bind fun r => if r then test x else test y
  | t => .ask t .ret
def want : T → X Unit
  | .lit (.bool true) => .ret ()
  | .lit (.bool false) => .fail "need: false"
  | t => .need (.need t) (.ret ())
def guard (b : Bool) (s : String) : X Unit := if b then .ret () else .fail s
/-- Which of 0 .. n - 1 a number is; the last one is not asked for. -/
def cases (t : T) : Nat → X Nat
  | 0 => .fail "cases"
  | 1 => .ret 0
  | n + 2 => .ask (T.mk (.cm .eq) [t, .lit (.int (n + 1 : Nat))]) fun b => if b then .ret (n + 1) else cases t (n + 1)
def known (t : T) : List (T × Bool) → Option Bool
  | [] => none
  | (u, b) :: l => if u.same t then some b else known t l
/-- Without the tests that are decided by earlier ones. -/
def prune {α : Type} : List (T × Bool) → X α → X α
  | _, .ret a => .ret a
  | as, .ask t k => match known t as with
    | some b => prune as (k b)
    | none => .ask t fun b => prune ((t, b) :: as) (k b)
  | as, .need c k => .need c (prune as k)
  | _, .fail s => .fail s
end X

def litI (n : Int) : T := .lit (.int n)
def litB (b : Bool) : T := .lit (.bool b)

mutual
def avOf : Value → AV
  | .bool b => .bool (litB b)
  | .int k n => .int k (litI n)
  | .string s => .str (.lit (.str s))
  | .pointer none => .nilp
  | .pointer (some a) => match a.spot with | none => .gptr a.block a.off | some _ => .bad
  | .slice none 0 0 => .nsl
  | .func fn ⟨[]⟩ ⟨[]⟩ => .func fn [] []
  | .nilFunc => .nilf
  | .agg a => match avOfA a with | some l => .agg l | none => .bad
  | .tuple a => match avOfA a with | some l => .tup l | none => .bad
  | _ => .bad
def avOfA : Array Value → Option (List AV)
  | ⟨l⟩ => avOfL l
def avOfL : List Value → Option (List AV)
  | [] => some []
  | v :: l => match avOf v with
    | .bad => none
    | x => match avOfL l with
      | some m => some (x :: m)
      | none => none
end

def ev (tl : Nat → AV) : Operand → AV
  | .tmp t => tl t
  | .const v => avOf v
  | .global g => .gptr g 0
  | .func f => .func (.func f) [] []

abbrev Heap := List (Nat × Blk)
def hget (h : Heap) (b : Nat) : Option Blk := h.lookup b

structure Eff where
  v : AV
  ws : Heap
  nx : Nat
  /-- The blocks that it has looked at. -/
  rd : List Nat
  deriving Inhabited

/-- What the executor asks of a program. -/
structure PV where
  info : TypeId → Option TypeInfo
  funcs : FuncId → Option Func
  mixed : Bool
  stood : TypeId → Bool
  eqg : TypeId → Bool
def PV.of (P : Program) : PV := { info := P.info?, funcs := fun f => P.funcs[f]?, mixed := P.follows .mixedOrders, stood := P.stoodInHeld, eqg := P.eqGuardType P.depth }
instance : Coe Program PV := ⟨PV.of⟩
def PV.und (V : PV) (t : TypeId) : Option TypeDesc :=
  match V.info t with
  | some { desc := .named _ u, .. } => (V.info u).map (·.desc)
  | some i => some i.desc
  | none => none
section
variable {P : Program}
theorem PV.und_of (t : TypeId) : (PV.of P).und t = P.underlying t := rfl
theorem PV.info_of (t : TypeId) : (PV.of P).info t = P.info? t := rfl
theorem PV.funcs_of (f : FuncId) : (PV.of P).funcs f = P.funcs[f]? := rfl
theorem PV.mixed_of : (PV.of P).mixed = P.follows .mixedOrders := rfl
theorem PV.stood_of (t : TypeId) : (PV.of P).stood t = P.stoodInHeld t := rfl
theorem PV.eqg_of (t : TypeId) : (PV.of P).eqg t = P.eqGuardType P.depth t := rfl
end

section
variable (P : PV)
def sizeT (t : TypeId) : Option Nat := (P.info t).map (·.size)
def isAggT (t : TypeId) : Option Bool := (P.und t).map fun | .struct _ | .array _ _ => true | _ => false

def AV.cells : AV → List AV
  | .agg l => l
  | v => [v]
def AV.isBad : AV → Bool
  | .bad => true
  | _ => false
def AV.notTup : AV → Bool
  | .tup _ => false
  | _ => true
def AV.one : AV → Bool
  | .agg _ | .tup _ | .bad => false
  | _ => true

/-- The cell of a kind that data fills. -/
def atomAV : Ty → T → AV
  | .int k, t => .int k t
  | .bool, t => .bool t
  | .str, t => .str t
  | .sl row, t => .sl row t

def cellsFrom (row : List Ty) (d i : T) (o n : Nat) : List AV :=
  ((row.drop o).take n).zipIdx.map fun (t, c) => atomAV t (T.mk (.cell (o + c)) [d, i])

def partA (t : TypeId) (l : List AV) (o : Nat) : Option AV := do
  if ← isAggT P t then
    let s ← sizeT P t
    if o + s ≤ l.length then some (.agg ((l.drop o).take s)) else none
  else l[o]?

def loadA (G : Nat → Option (List Value)) (hl : Nat → Option Blk) (t : TypeId) : AV → Option AV
  | .ptr b o => do
    let .cells l _ ← hl b | none
    partA P t l o
  | .gptr g o => do
    let l ← G g
    partA P t (← avOfL l) o
  | .eptr row d i o => do
    if ← isAggT P t then
      let s ← sizeT P t
      if o + s ≤ row.length then some (.agg (cellsFrom row d i o s)) else none
    else if o < row.length then (cellsFrom row d i o 1)[0]? else none
  | _ => none

def splice (l : List AV) (o : Nat) (cs : List AV) : List AV := l.take o ++ cs ++ l.drop (o + cs.length)

def fillA (place : Nat → Option (Nat × Nat)) (cells : List AV) : List (Nat × AV) → Option (List AV)
  | [] => some cells
  | (i, v) :: rest =>
    match place i with
    | none => none
    | some (off, size) =>
      if v.notTup = true ∧ v.cells.length = size ∧ off + v.cells.length ≤ cells.length then fillA place (splice cells off v.cells) rest else none

def intT : AV → Option (IntKind × T) | .int k t => some (k, t) | _ => none
def natLit : AV → Option Nat
  | .int _ (.lit (.int n)) => if 0 ≤ n then some n.toNat else none
  | _ => none

def arOf : BinOp → Option Ar
  | .add => some .add | .sub => some .sub | .mul => some .mul | .quo => some .quo | .rem => some .rem
  | .and => some .and | .or => some .or | .xor => some .xor | .andNot => some .andNot | .shl => some .shl | .shr => some .shr
  | _ => none
def cmOf : BinOp → Option Cm
  | .eql => some .eq | .neq => some .ne | .lss => some .lt | .leq => some .le | .gtr => some .gt | .geq => some .ge
  | _ => none

def eqGo (eq : TypeId → List AV → List AV → Option T) (xs ys : List AV) : List Field → Option T
  | [] => some (litB true)
  | f :: fs =>
    if f.name = "_" then none else
    match sizeT P f.type with
    | none => none
    | some s =>
      if f.offset + s ≤ xs.length ∧ f.offset + s ≤ ys.length then
        match eq f.type ((xs.drop f.offset).take s) ((ys.drop f.offset).take s), eqGo eq xs ys fs with
        | some a, some b => some (T.mk .ite [a, b, litB false])
        | _, _ => none
      else none
def eqArr (eq : TypeId → List AV → List AV → Option T) (e : TypeId) (s : Nat) : Nat → Nat → List AV → List AV → Option T
  | 0, _, _, _ => some (litB true)
  | n + 1, i, xs, ys =>
    if i * s + s ≤ xs.length ∧ i * s + s ≤ ys.length then
      match eq e ((xs.drop (i * s)).take s) ((ys.drop (i * s)).take s), eqArr eq e s n (i + 1) xs ys with
      | some a, some b => some (T.mk .ite [a, b, litB false])
      | _, _ => none
    else none
/-- The leaves that '==' compares, for types of numbers, bools, structs and arrays of these. -/
def eqT : Nat → TypeId → List AV → List AV → Option T
  | 0, _, _, _ => none
  | d + 1, t, xs, ys =>
    match P.und t with
    | some (.int k) => match xs, ys with
      | [.int k1 a], [.int k2 b] => if k1 = k ∧ k2 = k then some (T.mk (.cm .eq) [a, b]) else none
      | _, _ => none
    | some .bool => match xs, ys with
      | [.bool a], [.bool b] => some (T.mk .beq [a, b])
      | _, _ => none
    | some (.struct fs) => if P.stood t then none else eqGo P (eqT d) xs ys fs.toList
    | some (.array n e) => match sizeT P e with
      | some s => eqArr (eqT d) e s n 0 xs ys
      | none => none
    | _ => none
def eqAgg (t : TypeId) (xs ys : List AV) : Option T :=
  match sizeT P t, isAggT P t with
  | some s, some true => if xs.length = s ∧ ys.length = s then eqT P 20 t xs ys else none
  | _, _ => none

def binA (op : BinOp) (xType : TypeId) (x y : AV) : X AV :=
  match x, y with
  | .int k a, .int k' b =>
    match op with
    | .shl | .shr =>
      (X.opt "shift" (arOf op)).bind fun o =>
      (X.want (T.mk (.cm .ge) [b, litI 0])).bind fun _ =>
      X.pure (.int k (T.mk (.ar o k) [a, b]))
    | .quo | .rem =>
      (X.guard (k = k') "kinds").bind fun _ =>
      (X.opt "div" (arOf op)).bind fun o =>
      (X.want (T.mk (.cm .ne) [b, litI 0])).bind fun _ =>
      X.pure (.int k (T.mk (.ar o k) [a, b]))
    | _ =>
      (X.guard (k = k') "kinds").bind fun _ =>
      match arOf op, cmOf op with
      | some o, _ => X.pure (.int k (T.mk (.ar o k) [a, b]))
      | none, some c => X.pure (.bool (T.mk (.cm c) [a, b]))
      | none, none => X.fail "binop"
  | .bool a, .bool b =>
    match op with
    | .eql =>
      (X.guard (P.und xType matches some .bool) "bool type").bind fun _ =>
      X.pure (.bool (T.mk .beq [a, b]))
    | .neq =>
      (X.guard (P.und xType matches some .bool) "bool type").bind fun _ =>
      X.pure (.bool (T.mk .not [T.mk .beq [a, b]]))
    | _ => X.fail "bool op"
  | .str a, .str b =>
    match op with
    | .eql => X.pure (.bool (T.mk .seq [a, b]))
    | .neq => X.pure (.bool (T.mk .not [T.mk .seq [a, b]]))
    | _ => X.fail "string op"
  | .agg a, .agg b =>
    match op with
    | .eql | .neq =>
      (X.guard (!P.eqg xType) "eqGuardType").bind fun _ =>
      (X.opt "eqT" (eqAgg P xType a b)).bind fun t =>
      X.pure (.bool (if op = .neq then T.mk .not [t] else t))
    | _ => X.fail "agg op"
  | _, _ => X.fail "binop operands"

def unA (op : UnOp) : AV → Option AV
  | .int k a => match op with
    | .neg => some (.int k (T.mk (.ar .sub k) [litI 0, a]))
    | .xor => some (.int k (T.mk (.ar .xor k) [litI (if k.signed then -1 else k.max), a]))
    | _ => none
  | .bool a => match op with | .not => some (.bool (T.mk .not [a])) | _ => none
  | _ => none

def convA (src dst : TypeId) (x : AV) : Option AV := do
  let _ ← P.und src
  match ← P.und dst, x with
  | .int k, .int _ t => some (.int k (T.mk (.wrap k) [t]))
  | .string, .str t => some (.str t)
  | _, _ => none

def mnA (p : Prim) : AV → List AV → Option AV
  | .int k a, [] => some (.int k a)
  | .int k a, .int _ b :: l => mnA p (.int k (T.mk p [a, b])) l
  | _, _ => none

/-- What a call comes to: calls of Go functions are handed on. -/
def builtinA (b : Builtin) (argTypes : Array TypeId) (args : List AV) : Option AV :=
  match b, args with
  | .len, [x] => do
    let t ← argTypes[0]?
    match ← P.und t, x with
    | .array n _, _ => some (.int .i64 (litI n))
    | .string, .str s => some (.int .i64 (T.mk .slen [s]))
    | .slice _, .osl _ _ n _ => some (.int .i64 (litI n))
    | .slice _, .nsl => some (.int .i64 (litI 0))
    | .slice _, .sl _ d => some (.int .i64 (T.mk .len [d]))
    | _, _ => none
  | .min, x :: l => mnA .mn x l
  | .max, x :: l => mnA .mx x l
  | _, _ => none

def addrOff (o : Nat) : AV → Option AV
  | .ptr b p => some (.ptr b (p + o))
  | .gptr g p => some (.gptr g (p + o))
  | .eptr row d i p => some (.eptr row d i (p + o))
  | _ => none

def dataOf : Value → Option (Ty × D)
  | .int k n => some (.int k, .int n)
  | .bool b => some (.bool, .bool b)
  | .string s => some (.str, .str s)
  | _ => none
def rowTys : List Value → Option (List Ty)
  | [] => some []
  | v :: l => match dataOf v, rowTys l with
    | some (t, _), some ts => some (t :: ts)
    | _, _ => none
def rowData : List Ty → List Value → Option (List D)
  | [], [] => some []
  | t :: ts, v :: vs => match dataOf v, rowData ts vs with
    | some (t', d), some ds => if t.same t' then some (d :: ds) else none
    | _, _ => none
  | _, _ => none
def rowsData (row : List Ty) (s : Nat) : Nat → List Value → Option (List (List D))
  | 0, _ => some []
  | n + 1, l => match rowData row (l.take s), rowsData row s n (l.drop s) with
    | some r, some rs => some (r :: rs)
    | _, _ => none
/-- An array in a variable that stays as it is, as data. -/
def globRows (G : Nat → Option (List Value)) (g p s n : Nat) : Option (List Ty × List (List D)) :=
  match G g with
  | none => none
  | some l => match rowTys ((l.drop p).take s) with
    | none => none
    | some row => if row.length = s then (rowsData row s n (l.drop p)).map fun rs => (row, rs) else none

/-- The two functions without a body: is it the sum? -/
def extOf (f : FuncId) : Option Bool := match P.funcs f with
  | some fn => match fn.body with
    | none => if fn.origin = "" then if fn.name = "math/bits.Add64" then some true else if fn.name = "math/bits.Sub64" then some false else none else none
    | some _ => none
  | none => none
def extA (nx : Nat) (b : Bool) : List AV → X Eff
  | [.int .u64 x, .int .u64 y, .int .u64 c] =>
    (X.want (T.mk (.cm .le) [c, litI 1])).bind fun _ =>
    .ret ⟨.tup [.int .u64 (T.mk (.xt (if b then .adds else .subs)) [x, y, c]), .int .u64 (T.mk (.xt (if b then .addc else .subb)) [x, y, c])], [], nx, []⟩
  | _ => .fail "extern"
def opEval (G : Nat → Option (List Value)) (call : FuncId → List AV → X Eff) (tl : Nat → AV) (hl : Nat → Option Blk) (nx : Nat) (o : Oper) : X Eff :=
  let e := ev tl
  let val (v : AV) : X Eff := X.pure ⟨v, [], nx, []⟩
  let vo (s : String) (v : Option AV) : X Eff := X.bind (X.opt s v) val
  let new (l : List AV) (t : TypeId) (v : AV) : X Eff := X.pure ⟨v, [(nx, .cells l t)], nx + 1, []⟩
  (X.guard (o.op.operands.toList.all fun x => !(e x).isBad) "operand").bind fun _ =>
  match o.op with
  | .move x | .assign x => val (e x)
  | .pick c a b =>
    match e c with
    | .bool (.lit (.bool true)) => val (e a)
    | .bool (.lit (.bool false)) => val (e b)
    | .bool t => match e a, e b with
      | .bool x, .bool y => val (.bool (T.mk .ite [t, x, y]))
      | .int k x, .int k' y => if k = k' then val (.int k (T.mk .ite [t, x, y])) else X.fail "pick kinds"
      | _, _ => X.bind (X.test t) fun r => val (if r then e a else e b)
    | _ => X.fail "pick"
  | .alloc t => X.bind (X.opt "zero" (((P.info t).bind (·.zero)).map avOf)) fun z => (X.guard (!z.isBad && z.notTup) "zero").bind fun _ => new z.cells t (.ptr nx 0)
  | .box t x => (X.guard (e x).notTup "box").bind fun _ => new (e x).cells t (.ptr nx 0)
  | .build t parts =>
    X.bind (X.opt "build zero" (((P.info t).bind (·.zero)).map avOf)) fun z =>
    (X.guard (!z.isBad && z.notTup) "zero").bind fun _ =>
    match P.und t with
    | some (.struct fs) =>
      X.bind (X.opt "build fields" (fs.toList.mapM fun f => (sizeT P f.type).map fun s => (f.offset, s))) fun l =>
      X.bind (X.opt "build" (fillA (fun i => l[i]?) z.cells (parts.toList.map fun p => (p.1, e p.2)))) fun m => val (.agg m)
    | some (.array _ el) =>
      X.bind (X.opt "size" (sizeT P el)) fun s =>
      X.bind (X.opt "build" (fillA (fun i => some (i * s, s)) z.cells (parts.toList.map fun p => (p.1, e p.2)))) fun m => val (.agg m)
    | _ => X.fail "build type"
  | .buildSlice t n parts =>
    match P.und t with
    | some (.slice el) =>
      X.bind (X.opt "slice zero" (if n = 0 then some (.agg []) else ((P.info el).bind (·.zero)).map avOf)) fun z =>
      X.bind (X.opt "size" (sizeT P el)) fun s =>
      X.bind (X.guard (n = 0 || (z.cells.length = s && !z.isBad && z.notTup)) "zero size") fun _ =>
      X.bind (X.guard (n * s ≤ 16777216) "buildSlice size") fun _ =>
      X.bind (X.opt "buildSlice" (fillA (fun i => some (i * s, s)) (List.replicate n z.cells).flatten (parts.toList.map fun p => (p.1, e p.2)))) fun l =>
      new l el (.osl nx 0 n n)
    | _ => X.fail "buildSlice type"
  | .load t a => X.bind (X.opt "load" (loadA P G hl t (e a))) fun v => X.pure ⟨v, [], nx, match e a with | .ptr b _ => [b] | _ => []⟩
  | .store t a x =>
    match e a with
    | .ptr b p => match hl b with
      | some (.cells l el) =>
        (X.opt "store size" (sizeT P t)).bind fun s =>
        (X.guard ((e x).notTup && (e x).cells.length = s && (e x).cells.all AV.one && p + s ≤ l.length) "store").bind fun _ =>
        X.pure ⟨.tup [], [(b, .cells (splice l p (e x).cells) el)], nx, [b]⟩
      | _ => X.fail "store: block"
    | _ => X.fail "store: address"
  | .nilCheck x => match e x with
    | .ptr b p => val (.ptr b p)
    | .gptr g p => val (.gptr g p)
    | .eptr r d i p => val (.eptr r d i p)
    | .func (.func f) a c => val (.func (.func f) a c)
    | _ => X.fail "nilCheck"
  | .binOp op t x y _ => X.bind (binA P op t (e x) (e y)) val
  | .unOp op _ x => vo "unOp" (unA op (e x))
  | .convert s d x => vo "convert" (convA P s d (e x))
  | .makeFunc fn a c => val (.func fn (a.toList.map e) (c.toList.map e))
  | .makeSlice t n c =>
    match P.und t with
    | some (.slice el) =>
      X.bind (X.opt "make: length" (natLit (e n))) fun n =>
      X.bind (X.opt "make: capacity" (natLit (e c))) fun c =>
      X.bind (X.opt "make: info" (P.info el)) fun i =>
      X.bind (X.opt "make: zero" (i.zero.map avOf)) fun z =>
      X.bind (X.guard (n ≤ c && c * i.bytes ≤ 281474976710656 && c < 4294967296 && z.cells.length = i.size && !z.isBad && z.notTup) "make") fun _ =>
      new (List.replicate c z.cells).flatten el (.osl nx 0 n c)
    | _ => X.fail "make: type"
  | .fieldAddr s x f =>
    vo "fieldAddr" do
      let .struct fs ← P.und s | none
      let f ← fs[f]?
      let n ← sizeT P f.type
      if n = 0 then none else addrOff f.offset (e x)
  | .field s x f =>
    vo "field" do
      let .struct fs ← P.und s | none
      let f ← fs[f]?
      let .agg l := e x | none
      partA P f.type l f.offset
  | .indexAddr t x i =>
    match P.und t with
    | some (.array n el) =>
      match natLit (e i) with
      | some j =>
        X.bind (X.guard (j < n) "indexAddr: out of range") fun _ =>
        vo "indexAddr" do let s ← sizeT P el; addrOff (j * s) (e x)
      | none =>
        match e x, e i with
        | .gptr g p, .int _ j =>
          X.bind (X.opt "size" (sizeT P el)) fun s =>
          X.bind (X.opt "rows" (globRows G g p s n)) fun rr =>
          X.bind (X.want (T.mk (.cm .ge) [j, litI 0])) fun _ =>
          X.bind (X.want (T.mk (.cm .lt) [j, litI n])) fun _ => val (.eptr rr.1 (.lit (.list rr.2)) j 0)
        | _, _ => X.fail "indexAddr: index"
    | some (.slice el) =>
      X.bind (X.opt "size" (sizeT P el)) fun s =>
      match e x with
      | .osl b p n _ =>
        match natLit (e i) with
        | some j => X.bind (X.guard (j < n) "indexAddr: out of range") fun _ => val (.ptr b (p + j * s))
        | none => match e i with
          | .int _ j =>
            X.bind (X.guard (n ≤ 64) "indexAddr: many") fun _ =>
            X.bind (X.want (T.mk (.cm .ge) [j, litI 0])) fun _ =>
            X.bind (X.want (T.mk (.cm .lt) [j, litI n])) fun _ =>
            X.bind (X.cases j n) fun k => val (.ptr b (p + k * s))
          | _ => X.fail "indexAddr: index"
      | .sl row d =>
        match e i with
        | .int _ j =>
          X.bind (X.guard (row.length = s) "row size") fun _ =>
          X.bind (X.want (T.mk (.cm .ge) [j, litI 0])) fun _ =>
          X.bind (X.want (T.mk (.cm .lt) [j, T.mk .len [d]])) fun _ => val (.eptr row d j 0)
        | _ => X.fail "indexAddr: index"
      | _ => X.fail "indexAddr: slice"
    | _ => X.fail "indexAddr: type"
  | .index t x i =>
    match P.und t, e x with
    | some (.array n el), .agg l =>
      X.bind (X.opt "index" (natLit (e i))) fun j =>
      X.bind (X.guard (j < n) "index: out of range") fun _ =>
      vo "index: part" do let s ← sizeT P el; partA P el l (j * s)
    | some .string, .str s =>
      match e i with
      | .int _ j =>
        X.bind (X.want (T.mk (.cm .ge) [j, litI 0])) fun _ =>
        X.bind (X.want (T.mk (.cm .lt) [j, T.mk .slen [s]])) fun _ => val (.int .u8 (T.mk .sat [s, j]))
      | _ => X.fail "index: index"
    | _, _ => X.fail "index"
  | .slice t x lo hi none =>
    match P.und t, e x with
    | some (.slice el), .osl b p n cap =>
      X.bind (X.opt "size" (sizeT P el)) fun s =>
      X.bind (X.opt "low" (match lo with | none => some 0 | some y => natLit (e y))) fun l =>
      X.bind (X.opt "high" (match hi with | none => some n | some y => natLit (e y))) fun h =>
      X.bind (X.guard (l ≤ h && h ≤ cap && l < cap) "slice bounds") fun _ => val (.osl b (p + l * s) (h - l) (cap - l))
    | _, _ => X.fail "slice"
  | .extract x i => vo "extract" (match e x with | .tup l => l[i]? | _ => none)
  | .call c =>
    let args := c.args.toList.map e
    match c.callee with
    | .builtin b => vo "builtin" (builtinA P b c.argTypes args)
    | .value f => match e f with
      | .func (.func f) first captured => match extOf P f with
        | some b => extA nx b (first ++ args ++ captured)
        | none => call f (first ++ args ++ captured)
      | _ => X.fail "call: value"
    | _ => X.fail "call"
  | _ => X.fail "operation"
end
end Go.Sx
end
section
namespace Go.Sx
open Go
/-- The temporaries, as a tree. -/
inductive Tt where
  | nil
  | node (v : AV) (l r : Tt)
  deriving Inhabited
def Tt.get : Tt → Nat → AV
  | .nil, _ => .bad
  | .node v l r, i => match i with
    | 0 => v
    | j + 1 => match Nat.beq (j % 2) 0 with
      | true => l.get (j / 2)
      | false => r.get (j / 2)
def Tt.set : Nat → Tt → Nat → AV → Tt
  | 0, t, _, _ => t
  | f + 1, .nil, i, x => match i with
    | 0 => .node x .nil .nil
    | j + 1 => match Nat.beq (j % 2) 0 with
      | true => .node .bad (Tt.set f .nil (j / 2) x) .nil
      | false => .node .bad .nil (Tt.set f .nil (j / 2) x)
  | f + 1, .node v l r, i, x => match i with
    | 0 => .node x l r
    | j + 1 => match Nat.beq (j % 2) 0 with
      | true => .node v (Tt.set f l (j / 2) x) r
      | false => .node v l (Tt.set f r (j / 2) x)
theorem Tt.get_set : ∀ (f : Nat) (t : Tt) (i : Nat) (x : AV) (k : Nat), i < f → (t.set f i x).get k = if k = i then x else t.get k
  | 0, _, _, _, _, h => by omega
  | f + 1, t, i, x, k, h => by
    have step : ∀ (v : AV) (l r : Tt), (Tt.set (f + 1) (.node v l r) i x).get k = if k = i then x else (Tt.node v l r).get k := by
      intro v l r
      cases i with
      | zero => cases k <;> simp [Tt.set, Tt.get]
      | succ j =>
        have hb : ∀ m : Nat, Nat.beq (m % 2) 0 = true ∨ Nat.beq (m % 2) 0 = false := fun m => by cases Nat.beq (m % 2) 0 <;> simp
        have h1 : ∀ m : Nat, Nat.beq (m % 2) 0 = true → m % 2 = 0 := fun m h => Nat.eq_of_beq_eq_true h
        have h2 : ∀ m : Nat, Nat.beq (m % 2) 0 = false → m % 2 = 1 := fun m h => by
          have := Nat.ne_of_beq_eq_false h; omega
        cases k with
        | zero => rcases hb j with e | e <;> simp [Tt.set, Tt.get, e]
        | succ k =>
          rcases hb j with e | e <;> rcases hb k with e' | e'
          · simp only [Tt.set, Tt.get, e, e']
            rw [Tt.get_set f l (j / 2) x (k / 2) (by omega)]
            have a := h1 _ e; have b := h1 _ e'
            by_cases hk : k = j
            · simp [hk]
            · rw [if_neg (by omega), if_neg (by omega)]
          · simp only [Tt.set, Tt.get, e, e']
            have a := h1 _ e; have b := h2 _ e'
            rw [if_neg (by omega)]
          · simp only [Tt.set, Tt.get, e, e']
            have a := h2 _ e; have b := h1 _ e'
            rw [if_neg (by omega)]
          · simp only [Tt.set, Tt.get, e, e']
            rw [Tt.get_set f r (j / 2) x (k / 2) (by omega)]
            have a := h2 _ e; have b := h2 _ e'
            by_cases hk : k = j
            · simp [hk]
            · rw [if_neg (by omega), if_neg (by omega)]
    cases t with
    | node v l r => exact step v l r
    | nil =>
      have e1 : Tt.set (f + 1) .nil i x = Tt.set (f + 1) (.node .bad .nil .nil) i x := by cases i <;> rfl
      have e2 : Tt.get .nil k = Tt.get (.node .bad .nil .nil) k := by
        cases k with
        | zero => rfl
        | succ k => simp only [Tt.get]; split <;> rfl
      rw [e1, e2]; exact step _ _ _
structure Tm where
  length : Nat
  t : Tt
  deriving Inhabited
def Tm.get (m : Tm) (i : Nat) : AV := m.t.get i
def Tm.set (m : Tm) (i : Nat) (x : AV) : Tm := { length := m.length, t := m.t.set (i + 1) i x }
theorem Tm.get_set (m : Tm) (i : Nat) (x : AV) (k : Nat) : (m.set i x).get k = if k = i then x else m.get k := Tt.get_set _ _ _ _ _ (Nat.lt_succ_self i)
def Tt.put : Tt → Nat → List AV → Tt
  | t, _, [] => t
  | t, i, .bad :: l => t.put (i + 1) l
  | t, i, v :: l => (t.set (i + 1) i v).put (i + 1) l
theorem Tt.get_put : ∀ (l : List AV) (t : Tt) (i k : Nat), (∀ j, i ≤ j → t.get j = .bad) → (t.put i l).get k = if k < i then t.get k else l.getD (k - i) .bad
  | [], t, i, k, h => by
    simp only [Tt.put]
    split
    · rfl
    · rw [h k (by omega)]; simp
  | v :: l, t, i, k, h => by
    have gen : (t.set (i + 1) i v).put (i + 1) l = (t.set (i + 1) i v).put (i + 1) l → ((t.set (i + 1) i v).put (i + 1) l).get k = if k < i then t.get k else (v :: l).getD (k - i) .bad := fun _ => by
      rw [Tt.get_put l _ (i + 1) k (fun j hj => by rw [Tt.get_set _ _ _ _ _ (Nat.lt_succ_self i), if_neg (by omega)]; exact h j (by omega))]
      rw [Tt.get_set _ _ _ _ _ (Nat.lt_succ_self i)]
      by_cases h1 : k < i
      · rw [if_pos (by omega), if_pos h1, if_neg (by omega)]
      · by_cases h2 : k = i
        · subst h2; simp
        · rw [if_neg (by omega), if_neg h1, show k - i = k - (i + 1) + 1 from by omega, List.getD_cons_succ]
    have bad : v = .bad → (t.put (i + 1) l).get k = if k < i then t.get k else (v :: l).getD (k - i) .bad := fun hv => by
      rw [Tt.get_put l _ (i + 1) k (fun j hj => h j (by omega))]
      by_cases h1 : k < i
      · rw [if_pos (by omega), if_pos h1]
      · by_cases h2 : k = i
        · subst h2; rw [if_pos (by omega), if_neg h1, h k (Nat.le_refl _)]; simp [hv]
        · rw [if_neg (by omega), if_neg h1, show k - i = k - (i + 1) + 1 from by omega, List.getD_cons_succ]
    cases v <;> first | exact gen rfl | exact bad rfl
def Tm.of (n : Nat) (l : List AV) : Tm := { length := n, t := Tt.nil.put 0 l }
theorem Tm.get_of (n : Nat) (l : List AV) (k : Nat) : (Tm.of n l).get k = l.getD k .bad := by
  simp only [Tm.of, Tm.get]
  rw [Tt.get_put l .nil 0 k (fun _ _ => rfl), if_neg (by omega), Nat.sub_zero]
end Go.Sx
end
section
namespace Go.Sx
open Go

structure St where
  tm : Tm
  ws : Heap
  nx : Nat
  /-- The blocks of its callers that the frame has looked at. -/
  rd : List Nat
  deriving Inhabited

abbrev Base := Nat → Option Blk
def St.tl (S : St) : Nat → AV := fun t => S.tm.get t
def St.hl (S : St) (base : Base) : Base := fun b => (S.ws.lookup b).or (base b)
def hput : Heap → Nat → Blk → Heap
  | [], b, x => [(b, x)]
  | (c, y) :: h, b, x => if c = b then (b, x) :: h else (c, y) :: hput h b x
def hputs (h : Heap) : Heap → Heap
  | [] => h
  | (b, x) :: ws => hput (hputs h ws) b x
def addRd (ws : Heap) (rd : List Nat) : List Nat → List Nat
  | [] => rd
  | b :: l => let r := addRd ws rd l; if (ws.lookup b).isSome || r.contains b then r else b :: r
def St.put (S : St) (dst : Option Tmp) (e : Eff) : St :=
  { tm := match dst with | some d => S.tm.set d e.v | none => S.tm, ws := hputs S.ws e.ws, nx := e.nx, rd := addRd S.ws S.rd e.rd }

/-- The temporaries by which operations of a region are guarded. -/
def guardDsts (ops : Array Oper) : List Tmp := ops.toList.filterMap fun o => match o.guard with
  | some (j, _) => (ops[j]?).bind (·.dst)
  | none => none
/-- A bool that operations are guarded by is settled at once. -/
def settle (gd : List Tmp) (dst : Option Tmp) (e : Eff) : X Eff :=
  match e.v with
  | .bool (.lit _) => .ret e
  | .bool t => match dst with
    | some d => if gd.contains d then (X.test t).bind fun r => .ret { e with v := .bool (litB r) } else .ret e
    | none => .ret e
  | _ => .ret e
def opEvalS (P : PV) (G : Nat → Option (List Value)) (call : FuncId → List AV → X Eff) (tl : Nat → AV) (hl : Base) (nx : Nat) (gd : List Tmp) (o : Oper) : X Eff :=
  (opEval P G call tl hl nx o).bind (settle gd o.dst)

section
variable (P : PV) (G : Nat → Option (List Value)) (call : FuncId → List AV → Base → Nat → X Eff) (base : Base)

/-- The operations of a region in their order; what each came to. -/
def opsRun (ops : Array Oper) : List Oper → St → X (St × List Eff)
  | [], S => .ret (S, [])
  | o :: rest, S =>
    let go (S : St) : X (St × List Eff) :=
      (opEvalS P G (fun f args => call f args (S.hl base) S.nx) S.tl (S.hl base) S.nx (guardDsts ops) o).bind fun e =>
      (X.guard (match o.dst with | some d => d < S.tm.length | none => true) "dst").bind fun _ =>
      (opsRun ops rest (S.put o.dst e)).bind fun (S', l) => .ret (S', e :: l)
    match o.guard with
    | none => go S
    | some (j, want) =>
      match ((ops[j]?).bind (·.dst)).map S.tl with
      | some (.bool t) =>
        (X.test t).bind fun r =>
        if r = want then go S
        else
          (X.guard (match o.dst with | some d => d < S.tm.length | none => true) "dst").bind fun _ =>
          let e : Eff := ⟨.tup [], [], S.nx, []⟩
          (opsRun ops rest (S.put o.dst e)).bind fun (S', l) => .ret (S', e :: l)
      | some (.tup _) =>
        (X.guard (match o.dst with | some d => d < S.tm.length | none => true) "dst").bind fun _ =>
        let e : Eff := ⟨.tup [], [], S.nx, []⟩
        (opsRun ops rest (S.put o.dst e)).bind fun (S', l) => .ret (S', e :: l)
      | _ => .fail "guard"

def predsOf (o : Oper) : List Nat := o.after.toList.filterMap fun e => if Region.binds .any e then some e.on else none
/-- For each operation a mask of those that come before it in every order. -/
def closure : List Oper → List Nat → List Nat
  | [], acc => acc
  | o :: l, acc => closure l (acc ++ [(predsOf o).foldl (fun m k => m ||| 2 ^ k ||| acc.getD k 0) 0])

def depsOf (ops : Array Oper) (o : Oper) : List Tmp := o.looksAt ops

/-- Are all in the list unlike each other? -/
def nodupB : List Tmp → Nat → Bool
  | [], _ => true
  | d :: l, m => !m.testBit d && nodupB l (m ||| 2 ^ d)
/-- Who writes a temporary. -/
def dstsOf (l : List Oper) (i : Nat) : List (Tmp × Nat) := match l with
  | [] => []
  | o :: l => match o.dst with
    | some d => (d, i) :: dstsOf l (i + 1)
    | none => dstsOf l (i + 1)

def depsOk (ops : Array Oper) (cl : List Nat) (ds : List (Tmp × Nat)) : List Oper → List Nat → Nat → Bool
  | o :: l, m :: ms, i => ((depsOf ops o).all fun t => match ds.lookup t with
      | none => true
      | some j => i == j || m.testBit j || (cl.getD j 0).testBit i) && depsOk ops cl ds l ms (i + 1)
  | [], _, _ => true
  | _ :: _, [], _ => false

/-- Does the region come to the same in every order? -/
def orderOk (ops : Array Oper) (nx : Nat) (effs : List Eff) : Bool :=
  let l := ops.toList
  let cl := closure l []
  let before (i j : Nat) : Bool := (cl.getD i 0).testBit j
  let starts := nx :: effs.map (·.nx)
  let ds := dstsOf l 0
  (l.zipIdx.all fun (o, i) => (predsOf o).all (· < i)) &&
  (nodupB (ds.map (·.1)) 0 && depsOk ops cl ds l cl 0) &&
  ((effs.zip starts).zipIdx.all fun ((e, s), i) =>
    (e.ws.all fun (b, _) => (s ≤ b && b < e.nx) ||
      (effs.zipIdx.all fun (e', j) => i = j || !(e'.rd.contains b || (e'.ws.lookup b).isSome) || (if j < i then before i j else before j i))) &&
    (e.rd.all fun b => b < nx || (effs.zip starts).zipIdx.any fun ((e', s'), j) => s' ≤ b && b < e'.nx && before i j))

def stepX (todo : List Item) (S : St) : X (Option (List Item) × St) :=
  let to (k : List Item) : X (Option (List Item) × St) := .ret (some k, S)
  match todo with
  | [] => .ret (none, S)
  | .code .ret :: _ => .ret (none, S)
  | .code .skip :: k | .code (.label _) :: k | .inBlock _ :: k | .inScope _ :: k => to k
  | .code (.seq a b) :: k => to (.code a :: .code b :: k)
  | .code (.cond c thn els) :: k =>
    match ev S.tl c with
    | .bool t => (X.test t).bind fun r => .ret (some (.code (if r then thn else els) :: k), S)
    | _ => .fail "cond"
  | .code (.block id body) :: k => to (.code body :: .inBlock id :: k)
  | .code (.loop body) :: k | .inLoop body :: k => to (.code body :: .inLoop body :: k)
  | .code (.scope body) :: k => to (.code body :: .inScope body :: k)
  | .code (.exit id) :: k => match exitTo id k with | some k => to k | none => .fail "exit"
  | .code (.goto l) :: k => match gotoIn l k with | some k => to k | none => .fail "goto"
  | .code (.region id ops draw) :: k =>
    (opsRun P G call base ops ops.toList S).bind fun (S', effs) =>
    (X.guard (!draw || (P.mixed && orderOk ops S.nx effs)) ("order " ++ toString id)).bind fun _ => .ret (some k, S')
  | _ => .fail "item"

def runX : Nat → List Item → St → X St
  | 0, _, _ => .fail "fuel"
  | n + 1, todo, S => (stepX P G call base todo S).bind fun (r, S') =>
    match r with
    | none => .ret S'
    | some k => runX n k S'
end

/-- A contract's shape: the function, its parameters, its results; each a list of atoms, alone or as an aggregate. -/
inductive Sh where
  | at (t : Ty)
  | agg (l : List Ty)
  deriving Inhabited
structure Con where
  f : FuncId
  ps : List Sh
  rs : List Sh
  /-- What it answers to what is known. -/
  fold : Option (List D → List D) := none
  deriving Inhabited

def atomT : Ty → AV → Option T
  | .int k, .int k' t => if k = k' then some t else none
  | .bool, .bool t => some t
  | .str, .str t => some t
  | .sl row, .sl row' d => if Ty.sames row row' then some d else none
  | .sl _, .nsl => some (.lit (.list []))
  | _, _ => none
def atomsT : List Ty → List AV → Option (List T)
  | [], [] => some []
  | t :: ts, v :: vs => do some ((← atomT t v) :: (← atomsT ts vs))
  | _, _ => none
def argsT : List Sh → List AV → Option (List T)
  | [], [] => some []
  | .at t :: ts, v :: vs => do some ((← atomT t v) :: (← argsT ts vs))
  | .agg l :: ts, .agg c :: vs => do some ((← atomsT l c) ++ (← argsT ts vs))
  | _, _ => none
/-- The same, with the call's own slices. -/
def atomH (hl : Base) (t : Ty) (v : AV) : Option T :=
  match v with
  | .osl b o n cap => match t with
    | .sl row => match hl b with
      | some (.cells l _) => if o + n * row.length ≤ l.length ∧ n ≤ cap then (atomsT (List.replicate n row).flatten ((l.drop o).take (n * row.length))).map (T.mk (.mat n row.length)) else none
      | _ => none
    | _ => none
  | v => atomT t v
def atomsH (hl : Base) : List Ty → List AV → Option (List T)
  | [], [] => some []
  | t :: ts, v :: vs => match atomH hl t v, atomsH hl ts vs with
    | some x, some xs => some (x :: xs)
    | _, _ => none
  | _, _ => none
def argsH (hl : Base) : List Sh → List AV → Option (List T)
  | [], [] => some []
  | .at t :: ts, v :: vs => match atomH hl t v, argsH hl ts vs with
    | some x, some xs => some (x :: xs)
    | _, _ => none
  | .agg l :: ts, .agg c :: vs => match atomsH hl l c, argsH hl ts vs with
    | some x, some xs => some (x ++ xs)
    | _, _ => none
  | _, _ => none
def AV.ownSl : AV → List Nat
  | .osl b _ _ _ => [b]
  | _ => []
def AV.ownIn : AV → List Nat
  | .agg l => l.flatMap AV.ownSl
  | v => v.ownSl
def Ty.noSl : Ty → Bool
  | .sl _ => false
  | _ => true
def Sh.noSl : Sh → Bool
  | .at t => t.noSl
  | .agg l => l.all Ty.noSl
def Sh.size : Sh → Nat | .at _ => 1 | .agg l => l.length
def resAV (mk : Nat → T) : List Sh → Nat → List AV
  | [], _ => []
  | .at t :: l, j => atomAV t (mk j) :: resAV mk l (j + 1)
  | .agg ts :: l, j => .agg (ts.zipIdx.map fun (t, c) => atomAV t (mk (j + c))) :: resAV mk l (j + ts.length)
/-- The leaves of what a contract answers. -/
def conT (c : Con) (i : Nat) (l : List T) : Nat → T :=
  match c.fold, T.lits l with
  | some g, some ds => fun j => .lit ((g ds).getD j default)
  | _, _ => fun j => .app (.call i j) l
def oneOrTup : List AV → AV
  | [v] => v
  | l => .tup l

section
variable (P : PV) (G : Nat → Option (List Value)) (cons : List Con) (fu : Nat)

def enterSt (fn : Func) (args : List AV) (nx : Nat) : St := { tm := Tm.of (args.length + (fn.ntmps - args.length)) args, ws := [], nx, rd := [] }

def resA (S : St) (hl : Base) : ResultVar → Option AV
  | .tmp t => match S.tl t with | .bad => none | v => some v
  | .cell a t => match S.tl a with
    | .ptr b o => loadA P G hl t (.ptr b o)
    | _ => none
def resultsA (fn : Func) (S : St) (hl : Base) : Option AV := (fn.results.toList.mapM (resA P G S hl)).map oneOrTup

def resRd (fn : Func) (S : St) : List Nat := fn.results.toList.filterMap fun
  | .tmp _ => none
  | .cell a _ => match S.tl a with | .ptr b _ => some b | _ => none

def callX : Nat → FuncId → List AV → Base → Nat → X Eff
  | 0, _, _, _, _ => .fail "depth"
  | n + 1, f, args, base, nx =>
    match cons.zipIdx.find? (fun (c, _) => c.f = f) with
    | some (c, i) =>
      (X.guard (match P.funcs f with | some fn => fn.name != "runtime.NumGoroutine" && fn.body.isSome | none => false) "call").bind fun _ =>
      if c.rs.all Sh.noSl then
        (X.opt "contract: arguments" (argsH base c.ps args)).bind fun l =>
        .need (.pre i l) (.ret ⟨oneOrTup (resAV (conT c i l) c.rs 0), [], nx, args.flatMap AV.ownIn⟩)
      else
        (X.opt "contract: arguments" (argsT c.ps args)).bind fun l =>
        .need (.pre i l) (.ret ⟨oneOrTup (resAV (conT c i l) c.rs 0), [], nx, []⟩)
    | none =>
      match P.funcs f with
      | some fn =>
        match fn.body with
        | some body =>
          (X.guard (fn.name != "runtime.NumGoroutine" && fn.nfree + fn.params.size = args.length && args.length ≤ fn.ntmps) "call").bind fun _ =>
          (runX P G (callX n) base fu [.code body] (enterSt fn args nx)).bind fun S =>
          (X.opt "results" (resultsA P G fn S (S.hl base))).bind fun v => .ret ⟨v, S.ws, S.nx, addRd S.ws S.rd (resRd fn S)⟩
        | none => .fail "call: no body"
      | none => .fail "call: no function"

end
end Go.Sx
end
section
namespace Go.Sx
open Go

section
variable (C : Ctx) (Pre : Nat → List D → Prop)
def Cond.holds : Cond → Prop
  | .need t => (t.eval C.F C.η).toBool = true
  | .pre c l => Pre c (T.evals C.F C.η l)
/-- What a run comes to, the tests answered by the environment. -/
def X.Ev {α : Type} : X α → α → Prop
  | .ret a, b => b = a
  | .ask t k, b => (k (t.eval C.F C.η).toBool).Ev b
  | .need c k, b => c.holds C Pre ∧ k.Ev b
  | .fail _, _ => False
/-- What has to be shown. -/
def X.holds {α : Type} : X α → (α → Prop) → Prop
  | .ret a, Φ => Φ a
  | .ask t k, Φ => ((t.eval C.F C.η).toBool = true → (k true).holds Φ) ∧ ((t.eval C.F C.η).toBool = false → (k false).holds Φ)
  | .need c k, Φ => c.holds C Pre ∧ k.holds Φ
  | .fail _, _ => False
end

section
variable {C : Ctx} {Pre : Nat → List D → Prop} {α β : Type}
theorem X.ev_of_holds {Φ : α → Prop} : ∀ {x : X α}, x.holds C Pre Φ → ∃ a, x.Ev C Pre a ∧ Φ a
  | .ret a, h => ⟨a, rfl, h⟩
  | .ask t k, h => by
    simp only [X.holds] at h
    cases ht : (t.eval C.F C.η).toBool with
    | true => obtain ⟨a, h1, h2⟩ := X.ev_of_holds (h.1 ht); exact ⟨a, by simp only [X.Ev, ht]; exact h1, h2⟩
    | false => obtain ⟨a, h1, h2⟩ := X.ev_of_holds (h.2 ht); exact ⟨a, by simp only [X.Ev, ht]; exact h1, h2⟩
  | .need c k, h => by
    obtain ⟨a, h1, h2⟩ := X.ev_of_holds h.2
    exact ⟨a, ⟨h.1, h1⟩, h2⟩
  | .fail _, h => h.elim

theorem X.ev_bind {f : α → X β} {b : β} : ∀ {x : X α}, (x.bind f).Ev C Pre b → ∃ a, x.Ev C Pre a ∧ (f a).Ev C Pre b
  | .ret a, h => ⟨a, rfl, h⟩
  | .ask t k, h => by simp only [X.bind, X.Ev] at h ⊢; exact X.ev_bind h
  | .need c k, h => by
    simp only [X.bind, X.Ev] at h ⊢
    obtain ⟨a, h1, h2⟩ := X.ev_bind h.2
    exact ⟨a, ⟨h.1, h1⟩, h2⟩
  | .fail _, h => h.elim

theorem X.known_mem {t : T} {b : Bool} : ∀ {l : List (T × Bool)}, X.known t l = some b → (t, b) ∈ l
  | [], h => by simp [X.known] at h
  | (u, c) :: l, h => by
    simp only [X.known] at h
    split at h
    · rename_i hs
      simp only [Option.some.injEq] at h
      rw [T.same_eq hs, h]; exact List.mem_cons_self
    · exact List.mem_cons_of_mem _ (X.known_mem h)

theorem X.holds_prune {Φ : α → Prop} : ∀ {x : X α} {l : List (T × Bool)}, (∀ t b, (t, b) ∈ l → (t.eval C.F C.η).toBool = b) → (x.prune l).holds C Pre Φ → x.holds C Pre Φ
  | .ret a, _, _, h => h
  | .ask t k, l, hl, h => by
    simp only [X.prune] at h
    cases hk : X.known t l with
    | some b =>
      simp only [hk] at h
      have hb := hl t b (X.known_mem hk)
      have := X.holds_prune hl h
      simp only [X.holds, hb]
      cases b
      · exact ⟨fun e => (by cases e), fun _ => this⟩
      · exact ⟨fun _ => this, fun e => (by cases e)⟩
    | none =>
      simp only [hk, X.holds] at h ⊢
      exact ⟨fun e => X.holds_prune (fun u b hm => by
          rcases List.mem_cons.1 hm with h1 | h1
          · cases h1; exact e
          · exact hl u b h1) (h.1 e),
        fun e => X.holds_prune (fun u b hm => by
          rcases List.mem_cons.1 hm with h1 | h1
          · cases h1; exact e
          · exact hl u b h1) (h.2 e)⟩
  | .need c k, l, hl, h => ⟨h.1, X.holds_prune hl h.2⟩
  | .fail _, _, _, h => h

theorem X.ev_ret {a b : α} (h : (X.ret a).Ev C Pre b) : b = a := h
theorem X.ev_opt {s : String} {o : Option α} {a : α} (h : (X.opt s o).Ev C Pre a) : o = some a := by
  cases o with
  | none => exact h.elim
  | some b => rw [show a = b from h]
theorem X.ev_guard {b : Bool} {s : String} {u : Unit} (h : (X.guard b s).Ev C Pre u) : b = true := by
  cases b with
  | true => rfl
  | false => exact (show False from h).elim
theorem X.ev_want {t : T} {u : Unit} (h : (X.want t).Ev C Pre u) : (t.eval C.F C.η).toBool = true := by
  unfold X.want at h
  split at h
  · rfl
  · exact h.elim
  · exact h.1

theorem evals2 (a b : T) : T.evals C.F C.η [a, b] = [a.eval C.F C.η, b.eval C.F C.η] := rfl
theorem evals1 (a : T) : T.evals C.F C.η [a] = [a.eval C.F C.η] := rfl

theorem X.ev_test : ∀ {t : T} {b : Bool}, (X.test t).Ev C Pre b → b = (t.eval C.F C.η).toBool
  | .v i, b, h => h
  | .lit d, b, h => by
    cases d with
    | bool r => exact h
    | _ => exact h
  | .app p l, b, h => by
    unfold X.test at h
    split at h
    · rename_i heq; simp at heq
    · rename_i x heq
      cases heq
      obtain ⟨r, h1, h2⟩ := X.ev_bind h
      have := X.ev_test h1
      rw [X.ev_ret h2, this]; rfl
    · rename_i c x y heq
      cases heq
      obtain ⟨r, h1, h2⟩ := X.ev_bind h
      have h3 := X.ev_test h1
      have e : ((T.app .ite [c, x, y]).eval C.F C.η) = if (c.eval C.F C.η).toBool then x.eval C.F C.η else y.eval C.F C.η := rfl
      rw [e, ← h3]
      cases r
      · exact X.ev_test (t := y) h2
      · exact X.ev_test (t := x) h2
    · exact h
theorem X.ev_cases {t : T} : ∀ {n k : Nat}, (X.cases t n).Ev C Pre k → 0 ≤ (t.eval C.F C.η).toInt → (t.eval C.F C.η).toInt < n → (t.eval C.F C.η).toInt = k ∧ k < n
  | 0, _, h, _, _ => (show False from h).elim
  | 1, k, h, h0, h1 => by
    have : k = 0 := h
    omega
  | n + 2, k, h, h0, h1 => by
    simp only [X.cases, X.Ev] at h
    have e : ((T.mk (.cm .eq) [t, .lit (.int (n + 1 : Nat))]).eval C.F C.η).toBool = decide ((t.eval C.F C.η).toInt = ((n + 1 : Nat) : Int)) := by
      rw [T.eval_mk]
      have : ∀ x y : Int, (x == y) = decide (x = y) := fun x y => by rw [Bool.eq_iff_iff]; simp
      exact this _ _
    rw [e] at h
    by_cases hk : (t.eval C.F C.η).toInt = ((n + 1 : Nat) : Int)
    · rw [decide_eq_true hk] at h
      have : k = n + 1 := h
      omega
    · rw [decide_eq_false hk] at h
      have := X.ev_cases (n := n + 1) h h0 (by omega)
      omega
theorem X.ev_bind_intro {α β : Type} {f : α → X β} {a : α} {b : β} : ∀ {x : X α}, x.Ev C Pre a → (f a).Ev C Pre b → (x.bind f).Ev C Pre b
  | .ret _, h, h' => by rw [show a = _ from h] at h'; exact h'
  | .ask t k, h, h' => by simp only [X.bind, X.Ev] at h ⊢; exact X.ev_bind_intro h h'
  | .need c k, h, h' => ⟨h.1, X.ev_bind_intro h.2 h'⟩
  | .fail _, h, _ => (show False from h).elim

end

end Go.Sx
end
section
namespace Go.Sx
open Go

/-- The frame's temporaries are as the executor has them. -/
structure TmR (C : Ctx) (tl : Nat → AV) (hl : Nat → Option Blk) (ρ : Nat → Option Nat) (nt : Nat) (a : Act) (w : World) : Prop where
  defers : a.defers = []
  size : a.tmps.size = nt
  tm : ∀ t, tl t = .bad ∨ ∃ u, a.tmps[t]? = some u ∧ VR C ρ (Own C hl ρ) w (tl t) u

structure CtxOk (C : Ctx) : Prop where
  glob : ∀ g l, C.G g = some l → g < C.B ∧ ∃ e fr, C.w0.heap[g]? = some (.cells l.toArray e fr)
  out : ∀ k, C.O k → k < C.B
  away : ∀ g l, C.G g = some l → ¬ C.O g

theorem over_nil (hl : Nat → Option Blk) : over hl [] = hl := by funext b; simp [over]

section
variable {C : Ctx} {Pre : Nat → List D → Prop} {ρ : Nat → Option Nat} {O : Nat → Prop} {w : World}

mutual
theorem avOf_VR : ∀ {v : Value}, avOf v ≠ .bad → VR C ρ O w (avOf v) v
  | .bool b, _ => by simp [avOf, VR, litB, T.eval, D.toBool]
  | .int k n, _ => by simp [avOf, VR, litI, T.eval, D.toInt]
  | .string s, _ => by simp [avOf, VR, T.eval, D.toStr]
  | .pointer none, _ => by simp [avOf, VR]
  | .pointer (some ⟨b, o, none⟩), _ => by simp [avOf, VR]
  | .pointer (some ⟨b, o, some s⟩), h => by simp [avOf] at h
  | .slice none 0 0, _ => by simp [avOf, VR]
  | .slice (some _) _ _, h => by simp [avOf] at h
  | .slice none (_ + 1) _, h => by simp [avOf] at h
  | .slice none 0 (_ + 1), h => by simp [avOf] at h
  | .func fn ⟨[]⟩ ⟨[]⟩, _ => by simp only [avOf, VR]; exact ⟨#[], #[], rfl, by simp [VRs], by simp [VRs]⟩
  | .func fn ⟨_ :: _⟩ _, h => by simp [avOf] at h
  | .func fn ⟨[]⟩ ⟨_ :: _⟩, h => by simp [avOf] at h
  | .nilFunc, _ => by simp [avOf, VR]
  | .agg a, h => by
    simp only [avOf] at h ⊢
    cases hm : avOfA a with
    | none => simp [hm] at h
    | some l => simp only [VR]; exact ⟨a, rfl, avOfA_VRs hm⟩
  | .tuple a, h => by
    simp only [avOf] at h ⊢
    cases hm : avOfA a with
    | none => simp [hm] at h
    | some l => simp only [VR]; exact ⟨a, rfl, avOfA_VRs hm⟩
  | .float .., h => by simp [avOf] at h
  | .complex .., h => by simp [avOf] at h
  | .map .., h => by simp [avOf] at h
  | .chan .., h => by simp [avOf] at h
  | .iface .., h => by simp [avOf] at h
  | .nilIface, h => by simp [avOf] at h
theorem avOfA_VRs : ∀ {a : Array Value} {l : List AV}, avOfA a = some l → VRs C ρ O w l a.toList
  | ⟨l⟩, m, h => by simp only [avOfA] at h; exact avOfL_VRs h
theorem avOfL_VRs : ∀ {l : List Value} {m : List AV}, avOfL l = some m → VRs C ρ O w m l
  | [], m, h => by simp only [avOfL, Option.some.injEq] at h; subst h; simp [VRs]
  | v :: l, m, h => by
    simp only [avOfL] at h
    split at h
    · cases h
    · rename_i hne
      cases hl : avOfL l with
      | none => simp [hl] at h
      | some m' =>
        simp only [hl, Option.some.injEq] at h
        subst h
        simp only [VRs]
        exact ⟨avOf_VR hne, avOfL_VRs hl⟩
end

theorem ev_VR {tl : Nat → AV} {hl : Nat → Option Blk} {nt : Nat} {a : Act} (h : TmR C tl hl ρ nt a w) {x : Operand} (hx : ev tl x ≠ .bad) :
    VR C ρ (Own C hl ρ) w (ev tl x) (a.eval x) := by
  cases x with
  | tmp t =>
    rcases h.tm t with h | ⟨u, h1, h2⟩
    · exact absurd h hx
    · have : a.eval (.tmp t) = u := by simp [Act.eval, h1]
      rw [this]; exact h2
  | const v => exact avOf_VR hx
  | global g => simp [ev, VR, Act.eval]
  | func f => simp only [ev, VR, Act.eval]; exact ⟨#[], #[], rfl, by simp [VRs], by simp [VRs]⟩

theorem VR.cells {v : AV} {u : Value} (h : VR C ρ O w v u) (ht : ∀ l, v ≠ .tup l) : VRs C ρ O w v.cells u.cells.toList := by
  cases v with
  | agg l =>
    simp only [VR] at h
    obtain ⟨x, rfl, hx⟩ := h
    exact hx
  | tup l => exact absurd rfl (ht l)
  | bad => simp only [VR] at h
  | _ =>
    have hu : ∀ c, u ≠ .agg c := by
      intro c hc; subst hc
      simp only [VR, Reads] at h
      first | (cases h; done) | (obtain ⟨x, hx⟩ := h; first | (cases hx; done) | (obtain ⟨y, hy⟩ := hx; first | (cases hy; done) | (cases hy.2; done) | (cases hy.1; done)) | (cases hx.2; done) | (cases hx.1; done))
    have : u.cells = #[u] := by cases u <;> first | rfl | exact absurd rfl (hu _)
    rw [this]
    exact ⟨h, trivial⟩
end

/-- The operation does what the executor says. -/
def Sound1 (C : Ctx) (hl : Nat → Option Blk) (ρ : Nat → Option Nat) (o : Oper) (eff : Eff) (a : Act) (w : World) : Prop :=
  ∀ (K : Act → World → Prop) (Q : Exit → Act → World → Prop), (∀ u w' ρ', Hp C (over hl eff.ws) ρ' w' → Adv C hl ρ w (over hl eff.ws) ρ' w' →
    VR C ρ' (Own C (over hl eff.ws) ρ') w' eff.v u → K (a.put o.dst u) w') → o.wp C.P a w K Q

section
variable {C : Ctx} {Pre : Nat → List D → Prop} {ρ : Nat → Option Nat} {w : World} {hl : Nat → Option Blk} {a : Act} {o : Oper}

theorem sound_val {v : AV} {u : Value} {nx : Nat} {rd : List Nat} (hH : Hp C hl ρ w) (hr : (execOp a.eval o).run C.P w = .ok (.value u) w) (hv : VR C ρ (Own C hl ρ) w v u) :
    Sound1 C hl ρ o ⟨v, [], nx, rd⟩ a w := by
  intro K Q hK
  unfold Oper.wp
  rw [hr, Oper.upon_value]
  exact hK u w ρ (by rw [over_nil]; exact hH) (by rw [over_nil]; exact Adv.refl _ _ _ _) (by rw [over_nil]; exact hv)

theorem sound_new {l : List AV} {cs : Array Value} {t : TypeId} {n m : Nat} {rd : List Nat} (v : AV) (hH : Hp C hl ρ w) (hn : hl n = none) (u : Value)
    (hr : (execOp a.eval o).run C.P w = .ok (.value u) { w with heap := w.heap.push (.cells cs t (0, 0)) })
    (hv : VRs C ρ (Own C hl ρ) w l cs.toList)
    (hu : ∀ (ρ' : Nat → Option Nat) O' w', ρ' n = some w.heap.size → VR C ρ' O' w' v u) :
    Sound1 C hl ρ o ⟨v, [(n, .cells l t)], m, rd⟩ a w := by
  intro K Q hK
  unfold Oper.wp
  rw [hr, Oper.upon_value]
  obtain ⟨h1, h2⟩ := hH.alloc hn t hv
  exact hK u _ _ h1 h2 (hu _ _ _ (by simp))


theorem X.ev_bguard {α : Type} {b : Bool} {s : String} {f : Unit → X α} {x : α} (h : ((X.guard b s).bind f).Ev C Pre x) : b = true ∧ (f ()).Ev C Pre x := by
  obtain ⟨u, h1, h2⟩ := X.ev_bind h
  exact ⟨X.ev_guard h1, h2⟩
theorem X.ev_bopt {α β : Type} {s : String} {o : Option β} {f : β → X α} {x : α} (h : ((X.opt s o).bind f).Ev C Pre x) : ∃ y, o = some y ∧ (f y).Ev C Pre x := by
  obtain ⟨y, h1, h2⟩ := X.ev_bind h
  exact ⟨y, X.ev_opt h1, h2⟩
theorem X.ev_bwant {α : Type} {t : T} {f : Unit → X α} {x : α} (h : ((X.want t).bind f).Ev C Pre x) : (t.eval C.F C.η).toBool = true ∧ (f ()).Ev C Pre x := by
  obtain ⟨u, h1, h2⟩ := X.ev_bind h
  exact ⟨X.ev_want h1, h2⟩
theorem X.pure_eq {α : Type} (x : α) : (Pure.pure x : X α) = .ret x := rfl
theorem X.bind_eq {α β : Type} (x : X α) (f : α → X β) : (x >>= f) = x.bind f := rfl

theorem run_sizeT {P : Program} {t : TypeId} {s : Nat} (h : sizeT P t = some s) (w : World) : (sizeOf t).run P w = .ok s w := by
  unfold sizeT at h
  rw [PV.info_of] at h
  cases hi : P.info? t with
  | none => simp [hi] at h
  | some i => simp only [hi, Option.map_some, Option.some.injEq] at h; simp [sizeOf, typeInfo, hi, h]
theorem run_undl {P : Program} {t : TypeId} {d : TypeDesc} (h : P.underlying t = some d) (w : World) : (underlying t).run P w = .ok d w := by
  simp [underlying, h]
theorem run_isAggT {P : Program} {t : TypeId} {b : Bool} (h : isAggT P t = some b) (w : World) : (isAgg t).run P w = .ok b w := by
  unfold isAggT at h
  rw [PV.und_of] at h
  cases hu : P.underlying t with
  | none => simp [hu] at h
  | some d =>
    simp only [hu, Option.map_some, Option.some.injEq] at h
    simp only [isAgg, Sem.run_bind, run_undl hu, Result.andThen_ok]
    cases d <;> simp_all
theorem run_zero {P : Program} {t : TypeId} {z : AV} (h : ((P.info? t).bind (·.zero)).map avOf = some z) (w : World) : ∃ v, (zeroValue t).run P w = .ok v w ∧ avOf v = z := by
  cases hi : P.info? t with
  | none => simp [hi] at h
  | some i =>
    cases hz : i.zero with
    | none => simp [hi, hz] at h
    | some v => simp only [hi, Option.bind_some, hz, Option.map_some, Option.some.injEq] at h; exact ⟨v, by simp [zeroValue, typeInfo, hi, hz], h⟩

theorem VR.int_inv {k : IntKind} {t : T} {O : Nat → Prop} {u : Value} (h : VR C ρ O w (.int k t) u) : u = .int k (t.eval C.F C.η).toInt := by simpa only [VR] using h
theorem VR.bool_inv {t : T} {O : Nat → Prop} {u : Value} (h : VR C ρ O w (.bool t) u) : u = .bool (t.eval C.F C.η).toBool := by simpa only [VR] using h

theorem arOf_int {op : BinOp} {k : IntKind} {x y : Int} {ar : Ar} (P : Program) (w : World) (h : arOf op = some ar) (hd : ar ≠ .shl ∧ ar ≠ .shr) (hz : ar = .quo ∨ ar = .rem → y ≠ 0) (t : TypeId) :
    (binOp op t (.int k x) (.int k y)).run P w = .ok (.int k (ar.eval k x y)) w := by
  cases op <;> simp only [arOf, Option.some.injEq, reduceCtorEq] at h <;> subst h <;>
    first
      | (simp at hd; done)
      | (simp [binOp, Op.intArith, Ar.eval]; done)
      | (simp [binOp, Op.intBits, Ar.eval, bitsOf]; done)
      | (simp at hz; simp [binOp, Op.intDiv, Ar.eval, hz]; done)

theorem cmOf_int {op : BinOp} {k : IntKind} {x y : Int} {c : Cm} (P : Program) (w : World) (h : cmOf op = some c) (t : TypeId) :
    (binOp op t (.int k x) (.int k y)).run P w = .ok (.bool (c.eval x y)) w := by
  cases op <;> simp only [cmOf, Option.some.injEq, reduceCtorEq] at h <;> subst h <;> simp [binOp, Op.intCmp, Cm.eval]

theorem eqGuard_int (P : Program) (w : World) (op : BinOp) (t : TypeId) (x y : Operand) {k k' : IntKind} (a b : Int) :
    (eqGuard op t x y (.int k a) (.int k' b)).run P w = .ok () w := by
  unfold eqGuard; cases op <;> simp
theorem eqGuard_bool (P : Program) (w : World) (op : BinOp) (t : TypeId) (x y : Operand) (a b : Bool) :
    (eqGuard op t x y (.bool a) (.bool b)).run P w = .ok () w := by
  unfold eqGuard; cases op <;> simp

theorem eval_ar {o : Ar} {k : IntKind} {x y : T} : ((T.mk (.ar o k) [x, y]).eval C.F C.η).toInt = o.eval k (x.eval C.F C.η).toInt (y.eval C.F C.η).toInt := by
  rw [T.eval_mk]; rfl
theorem eval_cm {o : Cm} {x y : T} : ((T.mk (.cm o) [x, y]).eval C.F C.η).toBool = o.eval (x.eval C.F C.η).toInt (y.eval C.F C.η).toInt := by
  rw [T.eval_mk]; rfl
end
end Go.Sx
end
section
namespace Go.Sx
open Go

section
variable {C : Ctx} {Pre : Nat → List D → Prop} {ρ : Nat → Option Nat} {w : World} {hl : Nat → Option Blk} {a : Act} {o : Oper}

theorem partA_sound {P : Program} {t : TypeId} {l : List AV} {off : Nat} {v : AV} {O : Nat → Prop} {cs : Array Value} (h : partA P t l off = some v) (hv : VRs C ρ O w l cs.toList) (w' : World) :
    ∃ u, (part t cs off).run P w' = .ok u w' ∧ VR C ρ O w v u := by
  unfold partA at h
  cases hg : isAggT P t with
  | none => simp [hg] at h
  | some b =>
    cases b with
    | true =>
      simp only [hg, Option.bind_eq_bind, Option.bind_some, if_true] at h
      cases hs : sizeT P t with
      | none => simp [hs] at h
      | some s =>
        simp only [hs, Option.bind_some] at h
        split at h
        · simp only [Option.some.injEq] at h
          subst h
          refine ⟨.agg (cs.extract off (off + s)), ?_, ?_⟩
          · simp [part, run_isAggT hg, run_sizeT hs]
          · simp only [VR]
            refine ⟨_, rfl, ?_⟩
            have := (hv.drop off).take s
            simpa [Array.toList_extract, List.extract] using this
        · cases h
    | false =>
      simp only [hg, Option.bind_eq_bind, Option.bind_some, Bool.false_eq_true, if_false] at h
      obtain ⟨u, h1, h2⟩ := hv.get h
      refine ⟨u, ?_, h2⟩
      have : cs[off]? = some u := by simpa using h1
      simp [part, run_isAggT hg, this]

theorem Addr.add_none (b o n : Nat) : Addr.add ⟨b, o, none⟩ n = ⟨b, o + n, none⟩ := by
  unfold Addr.add; split <;> simp_all

theorem run_loadCellsFrom {P : Program} {k : Nat} {o : Nat} {cs : Array Value} (hc : ∀ i u, cs[i]? = some u → w.cell? ⟨k, o + i, none⟩ = some u) :
    ∀ (n i : Nat) (acc : Array Value), i + n ≤ cs.size → (loadCellsFrom ⟨k, o, none⟩ i n acc).run P w = .ok (acc ++ cs.extract i (i + n)) w
  | 0, i, acc, _ => by simp [loadCellsFrom]; omega
  | n + 1, i, acc, h => by
    have hi : cs[i]? = some cs[i] := Array.getElem?_eq_getElem (by omega)
    have := hc i _ hi
    rw [show i + (n + 1) = i + 1 + n from by omega]
    simp only [loadCellsFrom, Sem.run_bind, run_load, Addr.add_none, this, Result.andThen_ok]
    rw [run_loadCellsFrom hc n (i + 1) _ (by omega)]
    congr 1
    apply Array.ext'
    have e : cs.extract i (i + 1 + n) = #[cs[i]] ++ cs.extract (i + 1) (i + 1 + n) := by
      apply Array.ext
      · simp; omega
      · intro j h1 h2
        simp at h1
        by_cases hj : j = 0
        · subst hj; simp
        · obtain ⟨j, rfl⟩ : ∃ m, j = m + 1 := ⟨j - 1, by omega⟩
          simp [Nat.add_assoc, Nat.add_comm 1 j]
    rw [e]; simp

theorem run_loadCells_at {P : Program} {k o n : Nat} {cs : Array Value} (hc : ∀ i u, cs[i]? = some u → w.cell? ⟨k, o + i, none⟩ = some u) (hn : n = cs.size) :
    (loadCells ⟨k, o, none⟩ n).run P w = .ok cs w := by
  unfold loadCells
  rw [run_loadCellsFrom hc n 0 #[] (by omega)]
  simp [hn]

theorem cell_of_block {k o : Nat} {cs : Array Value} {e : TypeId} {fr : Nat × Nat} (h : w.heap[k]? = some (.cells cs e fr)) : w.cell? ⟨k, o, none⟩ = cs[o]? := by
  simp [World.cell?, h]

/-- A variable within a block whose cells are known. -/
theorem loadBlk_sound {P : Program} {t : TypeId} {l : List AV} {off : Nat} {v : AV} {O : Nat → Prop} {cs : Array Value} {k : Nat} {e : TypeId} {fr : Nat × Nat}
    (h : partA P t l off = some v) (hv : VRs C ρ O w l cs.toList) (hk : w.heap[k]? = some (.cells cs e fr)) :
    ∃ u, (loadVar t ⟨k, off, none⟩).run P w = .ok u w ∧ VR C ρ O w v u := by
  have hlen := hv.length
  unfold partA at h
  cases hg : isAggT P t with
  | none => simp [hg] at h
  | some b =>
    cases b with
    | true =>
      simp only [hg, Option.bind_eq_bind, Option.bind_some, if_true] at h
      cases hs : sizeT P t with
      | none => simp [hs] at h
      | some s =>
        simp only [hs, Option.bind_some] at h
        split at h
        · rename_i hle
          simp only [Option.some.injEq] at h
          subst h
          have hcs : l.length = cs.size := by simpa using hlen
          refine ⟨.agg (cs.extract off (off + s)), ?_, ?_⟩
          · have : (loadCells ⟨k, off, none⟩ s).run P w = .ok (cs.extract off (off + s)) w :=
              run_loadCells_at (fun i u hu => by
                rw [cell_of_block hk]
                rw [Array.getElem?_extract] at hu
                split at hu
                · exact hu
                · cases hu) (by simp; omega)
            simp [loadVar, run_isAggT hg, run_sizeT hs, this]
          · simp only [VR]
            refine ⟨_, rfl, ?_⟩
            have := (hv.drop off).take s
            simpa [Array.toList_extract, List.extract] using this
        · cases h
    | false =>
      simp only [hg, Option.bind_eq_bind, Option.bind_some, Bool.false_eq_true, if_false] at h
      obtain ⟨u, h1, h2⟩ := hv.get h
      have : cs[off]? = some u := by simpa using h1
      have hc : w.cell? ⟨k, off, none⟩ = some u := by rw [cell_of_block hk]; exact this
      exact ⟨u, by simp [loadVar, run_isAggT hg, hc], h2⟩

/-- The cells of a row of data. -/
theorem readsRow_get {O : Nat → Prop} : ∀ {row : List Ty} {ds : List D} {b s : Nat} (c : Nat) {t : Ty}, ReadsRow w O row ds b s → row[c]? = some t →
    ∃ u, w.cell? ⟨b, s + c, none⟩ = some u ∧ Reads w O t (ds.getD c default) u
  | [], _, _, _, c, t, _, h => by simp at h
  | t0 :: row, ds, b, s, 0, t, hr, h => by
    simp only [ReadsRow] at hr
    simp only [List.getElem?_cons_zero, Option.some.injEq] at h
    subst h
    obtain ⟨u, h1, h2⟩ := hr.1
    refine ⟨u, h1, ?_⟩
    cases ds <;> simpa using h2
  | t0 :: row, ds, b, s, c + 1, t, hr, h => by
    simp only [ReadsRow] at hr
    simp only [List.getElem?_cons_succ] at h
    obtain ⟨u, h1, h2⟩ := readsRow_get c hr.2 h
    refine ⟨u, by rw [← h1]; congr 2; omega, ?_⟩
    cases ds <;> simpa using h2

theorem atomAV_VR {O : Nat → Prop} {ty : Ty} {t : T} {u : Value} (h : Reads w O ty (t.eval C.F C.η) u) : VR C ρ O w (atomAV ty t) u := by
  cases ty <;> simpa only [atomAV, VR, Reads] using h

theorem cellsFrom_VRs {O : Nat → Prop} {row : List Ty} {d i : T} {b s : Nat}
    (h : ReadsRow w O row ((d.eval C.F C.η).rows.getD (i.eval C.F C.η).toInt.toNat []) b s) :
    ∀ (n off : Nat), off + n ≤ row.length → ∃ cs : Array Value, cs.size = n ∧ (∀ j u, cs[j]? = some u → w.cell? ⟨b, s + off + j, none⟩ = some u) ∧ VRs C ρ O w (cellsFrom row d i off n) cs.toList := by
  intro n off hn
  have key : ∀ (m : Nat) (l : List Ty) (p : Nat), (∀ j, l[j]? = row[p + j]?) → off ≤ p → m ≤ l.length →
      ∃ cs : List Value, cs.length = m ∧ (∀ j u, cs[j]? = some u → w.cell? ⟨b, s + p + j, none⟩ = some u) ∧
        VRs C ρ O w (((l.take m).zipIdx (p - off)).map fun (t, c) => atomAV t (T.mk (.cell (off + c)) [d, i])) cs := by
    intro m
    induction m with
    | zero => intro l p _ _ _; exact ⟨[], rfl, by simp, by simp [VRs]⟩
    | succ m ih =>
      intro l p hl hp hm
      match l, hm with
      | t :: l, hm =>
        have ht : row[p]? = some t := by simpa using (hl 0).symm
        obtain ⟨u, hu1, hu2⟩ := readsRow_get p h ht
        obtain ⟨cs, h1, h2, h3⟩ := ih l (p + 1) (fun j => by have := hl (j + 1); simpa [Nat.add_assoc, Nat.add_comm 1 j] using this) (by omega) (by simpa using hm)
        refine ⟨u :: cs, by simp [h1], ?_, ?_⟩
        · intro j v hj
          cases j with
          | zero => simp only [List.getElem?_cons_zero, Option.some.injEq] at hj; subst hj; simpa using hu1
          | succ j =>
            simp only [List.getElem?_cons_succ] at hj
            have := h2 j v hj
            rw [← this]; congr 2; omega
        · simp only [List.take_succ_cons, List.zipIdx_cons, List.map_cons, VRs]
          refine ⟨atomAV_VR ?_, ?_⟩
          · rw [T.eval_mk]
            show Reads w O t (((d.eval C.F C.η).rows.getD (i.eval C.F C.η).toInt.toNat []).getD (off + (p - off)) default) u
            rw [show off + (p - off) = p from by omega]; exact hu2
          · rw [show p - off + 1 = p + 1 - off from by omega]; exact h3
  obtain ⟨cs, h1, h2, h3⟩ := key n (row.drop off) off (fun j => by simp) (Nat.le_refl _) (by simp; omega)
  refine ⟨cs.toArray, by simpa using h1, by simpa using h2, ?_⟩
  simpa [cellsFrom] using h3

theorem dataOf_reads {v : Value} {t : Ty} {d : D} (h : dataOf v = some (t, d)) (w : World) (O : Nat → Prop) : Reads w O t d v := by
  unfold dataOf at h
  split at h
  · simp only [Option.some.injEq, Prod.mk.injEq] at h; obtain ⟨rfl, rfl⟩ := h; simp [Reads, D.toInt]
  · simp only [Option.some.injEq, Prod.mk.injEq] at h; obtain ⟨rfl, rfl⟩ := h; simp [Reads, D.toBool]
  · simp only [Option.some.injEq, Prod.mk.injEq] at h; obtain ⟨rfl, rfl⟩ := h; simp [Reads, D.toStr]
  · cases h
theorem rowData_reads {w : World} {O : Nat → Prop} {g : Nat} : ∀ {row : List Ty} {vs : List Value} {ds : List D} {o : Nat}, rowData row vs = some ds →
    (∀ c, c < vs.length → w.cell? ⟨g, o + c, none⟩ = vs[c]?) → ReadsRow w O row ds g o
  | [], [], ds, o, _, _ => by simp only [ReadsRow]
  | t :: ts, v :: vs, ds, o, h, hw => by
    simp only [rowData] at h
    split at h
    · rename_i t' d ds' h1 h2
      split at h
      · rename_i ht
        simp only [Option.some.injEq] at h
        subst h
        simp only [ReadsRow, List.headD_cons, List.tail_cons]
        refine ⟨⟨v, by simpa using hw 0 (by simp), ?_⟩, rowData_reads h2 (fun c hc => ?_)⟩
        · rw [Ty.same_eq ht]; exact dataOf_reads h1 w O
        · have := hw (c + 1) (by simpa using hc)
          rw [show o + 1 + c = o + (c + 1) from by omega, this]; simp
      · cases h
    · cases h
  | [], _ :: _, _, _, h, _ => by simp [rowData] at h
  | _ :: _, [], _, _, h, _ => by simp [rowData] at h
theorem rowData_len : ∀ {row : List Ty} {vs : List Value} {ds : List D}, rowData row vs = some ds → vs.length = row.length
  | [], [], _, _ => rfl
  | t :: ts, v :: vs, ds, h => by
    simp only [rowData] at h
    split at h
    · rename_i t' d ds' h1 h2
      simp [rowData_len h2]
    · cases h
  | [], _ :: _, _, h => by simp [rowData] at h
  | _ :: _, [], _, h => by simp [rowData] at h
theorem rowsData_reads {w : World} {O : Nat → Prop} {g s : Nat} {row : List Ty} (hs : row.length = s) : ∀ {n : Nat} {l : List Value} {rs : List (List D)} {o : Nat}, rowsData row s n l = some rs →
    (∀ c, c < l.length → w.cell? ⟨g, o + c, none⟩ = l[c]?) → ∀ j, j < n → ReadsRow w O row (rs.getD j []) g (o + j * s)
  | 0, _, _, _, _, _, j, hj => by omega
  | n + 1, l, rs, o, h, hw, j, hj => by
    simp only [rowsData] at h
    split at h
    · rename_i r rs' h1 h2
      simp only [Option.some.injEq] at h
      subst h
      have hlen := rowData_len h1
      cases j with
      | zero =>
        simp only [List.getD_cons_zero, Nat.zero_mul, Nat.add_zero]
        refine rowData_reads h1 (fun c hc => ?_)
        simp only [List.length_take] at hc
        rw [hw c (by omega), List.getElem?_take, if_pos (by omega)]
      | succ j =>
        simp only [List.getD_cons_succ]
        have := rowsData_reads (w := w) (O := O) (g := g) hs (o := o + s) h2 (fun c hc => by
          simp only [List.length_drop] at hc
          rw [show o + s + c = o + (s + c) from by omega, hw (s + c) (by omega)]
          simp) j (by omega)
        rw [show o + (j + 1) * s = o + s + j * s from by rw [Nat.succ_mul]; omega]
        exact this
    · cases h
theorem globRows_sound {G : Nat → Option (List Value)} {g p s n : Nat} {rr : List Ty × List (List D)} (h : globRows G g p s n = some rr) :
    ∃ l, G g = some l ∧ rr.1.length = s ∧ ∀ (w : World) (O : Nat → Prop) (e : TypeId) (fr : Nat × Nat), w.heap[g]? = some (.cells l.toArray e fr) →
      ∀ j, j < n → ReadsRow w O rr.1 (rr.2.getD j []) g (p + j * s) := by
  unfold globRows at h
  split at h
  · cases h
  · rename_i l hG
    split at h
    · cases h
    · rename_i row hrow
      split at h
      · rename_i hs
        cases hr : rowsData row s n (l.drop p) with
        | none => simp [hr] at h
        | some rs =>
          simp only [hr, Option.map_some, Option.some.injEq] at h
          subst h
          refine ⟨l, hG, hs, fun w O e fr hw j hj => rowsData_reads hs hr (fun c hc => ?_) j hj⟩
          simp [World.cell?, hw]
      · cases h

theorem loadA_sound {t : TypeId} {av v : AV} {u : Value} (hc : CtxOk C) (hH : Hp C hl ρ w) (h : loadA C.P C.G hl t av = some v) (hv : VR C ρ (Own C hl ρ) w av u) :
    ∃ x, (Instr.loadAt t u).run C.P w = .ok x w ∧ VR C ρ (Own C hl ρ) w v x := by
  cases av <;> simp only [loadA, reduceCtorEq] at h
  case ptr b off =>
    simp only [VR] at hv
    obtain ⟨k, hk, rfl⟩ := hv
    cases hb : hl b with
    | none => simp [hb] at h
    | some x =>
      cases x with
      | dead => simp [hb] at h
      | cells l e =>
        simp only [hb, Option.bind_eq_bind, Option.bind_some] at h
        obtain ⟨k', cs, h1, h2, h3⟩ := hH.cells b l e hb
        obtain rfl : k' = k := Option.some.inj (h1.symm.trans hk)
        obtain ⟨x, hx1, hx2⟩ := loadBlk_sound h h3 h2
        exact ⟨x, by simp [Instr.loadAt, Instr.sureAddr, hx1], hx2⟩
  case gptr g off =>
    simp only [VR] at hv
    subst hv
    cases hg : C.G g with
    | none => simp [hg] at h
    | some l =>
      simp only [hg, Option.bind_eq_bind, Option.bind_some] at h
      cases hm : avOfL l with
      | none => simp [hm] at h
      | some m =>
        simp only [hm, Option.bind_some] at h
        obtain ⟨hgB, e, fr, hw⟩ := hc.glob g l hg
        have hw' : w.heap[g]? = some (.cells l.toArray e fr) := by rw [hH.below.block g hgB]; exact hw
        have h3 : VRs C ρ (Own C hl ρ) w m l.toArray.toList := by simpa using avOfL_VRs (C := C) (ρ := ρ) (O := Own C hl ρ) (w := w) hm
        obtain ⟨x, hx1, hx2⟩ := loadBlk_sound h h3 hw'
        exact ⟨x, by simp [Instr.loadAt, Instr.sureAddr, hx1], hx2⟩
  case eptr row d i off =>
    simp only [VR] at hv
    obtain ⟨b, s, rfl, hb1, hb2, hr⟩ := hv
    cases hg : isAggT C.P t with
    | none => simp [hg] at h
    | some bb =>
      cases bb with
      | true =>
        simp only [hg, Option.bind_eq_bind, Option.bind_some, if_true] at h
        cases hs : sizeT C.P t with
        | none => simp [hs] at h
        | some sz =>
          simp only [hs, Option.bind_some] at h
          split at h
          · rename_i hle
            simp only [Option.some.injEq] at h
            subst h
            obtain ⟨cs, h1, h2, h3⟩ := cellsFrom_VRs (C := C) (ρ := ρ) hr sz off hle
            refine ⟨.agg cs, ?_, ?_⟩
            · have : (loadCells ⟨b, s + off, none⟩ sz).run C.P w = .ok cs w := run_loadCells_at h2 h1.symm
              simp [Instr.loadAt, Instr.sureAddr, loadVar, run_isAggT hg, run_sizeT hs, this]
            · simp only [VR]; exact ⟨cs, rfl, h3⟩
          · cases h
      | false =>
        simp only [hg, Option.bind_eq_bind, Option.bind_some, Bool.false_eq_true, if_false] at h
        split at h
        · rename_i hlt
          obtain ⟨cs, h1, h2, h3⟩ := cellsFrom_VRs (C := C) (ρ := ρ) hr 1 off (by omega)
          obtain ⟨x, hx1, hx2⟩ := h3.get h
          have hx1' : cs[0]? = some x := by simpa using hx1
          have hcell := h2 0 x hx1'
          exact ⟨x, by simp at hcell; simp [Instr.loadAt, Instr.sureAddr, loadVar, run_isAggT hg, hcell], hx2⟩
        · cases h

end
end Go.Sx
end
section
namespace Go.Sx
open Go

section
variable {C : Ctx} {Pre : Nat → List D → Prop} {ρ : Nat → Option Nat} {w : World} {hl : Nat → Option Blk} {a : Act} {o : Oper}

/-- Lists that fill agree with arrays that fill. -/
theorem foldl_set_splice : ∀ (vs : List Value) (cells : Array Value) (off j : Nat), off + j + vs.length ≤ cells.size →
    ((vs.zipIdx j).foldl (fun cs (x : Value × Nat) => cs.setIfInBounds (off + x.2) x.1) cells).toList =
      cells.toList.take (off + j) ++ vs ++ cells.toList.drop (off + j + vs.length)
  | [], cells, off, j, _ => by simp
  | v :: vs, cells, off, j, h => by
    simp only [List.zipIdx_cons, List.foldl_cons, List.length_cons] at *
    rw [foldl_set_splice vs _ off (j + 1) (by simp; omega)]
    have hlt : off + j < cells.toList.length := by simp; omega
    simp only [Array.toList_setIfInBounds]
    rw [show off + (j + 1) = off + j + 1 from by omega, List.take_add_one]
    simp only [List.getElem?_set_self hlt, Option.toList_some, List.append_assoc, List.singleton_append]
    rw [List.take_set_of_le (by omega), List.drop_set_of_lt (by omega)]
    simp only [List.cons_append]
    rw [show off + j + 1 + vs.length = off + j + (vs.length + 1) from by omega]

theorem fillA_sound {O : Nat → Prop} {place place' : Nat → Option (Nat × Nat)} (hp : ∀ i, place' i = place i) : ∀ {parts : List (Nat × AV)} {vals : List (Nat × Value)} {l m : List AV} {cs : Array Value},
    fillA place l parts = some m → VRs C ρ O w l cs.toList → parts.length = vals.length →
    (∀ (j : Nat) (p : Nat × AV) (q : Nat × Value), parts[j]? = some p → vals[j]? = some q → p.1 = q.1 ∧ VR C ρ O w p.2 q.2 ) →
    ∃ ds, Instr.fill place' cs vals = some ds ∧ VRs C ρ O w m ds.toList
  | [], [], l, m, cs, h, hv, _, _ => by simp only [fillA, Option.some.injEq] at h; subst h; exact ⟨cs, rfl, hv⟩
  | [], _ :: _, _, _, _, _, _, hlen, _ => by simp at hlen
  | _ :: _, [], _, _, _, _, _, hlen, _ => by simp at hlen
  | (i, x) :: parts, (i', u) :: vals, l, m, cs, h, hv, hlen, hpq => by
    obtain ⟨h1, h2⟩ := hpq 0 (i, x) (i', u) rfl rfl
    simp only at h1 h2
    subst h1
    simp only [fillA] at h
    have hl := hv.length
    cases hpl : place i with
    | none => simp [hpl] at h
    | some os =>
      obtain ⟨off, size⟩ := os
      simp only [hpl] at h
      split at h
      · rename_i hcond
        obtain ⟨hnt, hs, hle⟩ := hcond
        have hc := h2.cells (fun l e => by subst e; simp [AV.notTup] at hnt)
        have hcl := hc.length
        simp only [Array.length_toList] at hcl hl
        have hnot : ¬ (u.cells.size ≠ size ∨ off + u.cells.size > cs.size) := by omega
        have hspl : ((u.cells.zipIdx.foldl (fun cs (x : Value × Nat) => cs.setIfInBounds (off + x.2) x.1) cs)).toList =
            cs.toList.take off ++ u.cells.toList ++ cs.toList.drop (off + u.cells.toList.length) := by
          have := foldl_set_splice u.cells.toList cs off 0 (by simp; omega)
          rw [← Array.foldl_toList, Array.toList_zipIdx]
          simpa using this
        have hv' : VRs C ρ O w (splice l off x.cells) (u.cells.zipIdx.foldl (fun cs (x : Value × Nat) => cs.setIfInBounds (off + x.2) x.1) cs).toList := by
          rw [hspl]
          unfold splice
          rw [hc.length]
          exact ((hv.take off).append hc).append (hv.drop _)
        obtain ⟨ds, hd1, hd2⟩ := fillA_sound (place' := place') hp h hv' (by simpa using hlen) (fun j p q hj hq => hpq (j + 1) p q (by simpa using hj) (by simpa using hq))
        refine ⟨ds, ?_, hd2⟩
        simp only [Instr.fill, hp, hpl]
        have e1 : (decide (u.cells.size ≠ size) || decide (off + u.cells.size > cs.size)) = false := by simp; omega
        rw [if_neg (by simpa using hnot)]
        exact hd1
      · cases h

theorem VRs.one {O : Nat → Prop} {v : AV} {l : List Value} (h : VRs C ρ O w [v] l) : ∃ u, l = [u] ∧ VR C ρ O w v u := by
  match l, h with
  | [u], h => simp only [VRs] at h; exact ⟨u, rfl, h.1⟩
  | [], h => simp only [VRs] at h
  | _ :: _ :: _, h => simp only [VRs] at h; exact h.2.elim

theorem eval_ite {a b c : T} : ((T.mk .ite [a, b, c]).eval C.F C.η).toBool = if (a.eval C.F C.η).toBool then (b.eval C.F C.η).toBool else (c.eval C.F C.η).toBool := by
  rw [T.eval_mk]
  simp only [T.evals, Prim.eval]
  split <;> rfl

def EqAt (C : Ctx) (P : Program) (d : Nat) (t : TypeId) (xs ys : List AV) (e : T) (ρ : Nat → Option Nat) (O : Nat → Prop) (w : World) : Prop :=
  ∀ (A B : Array Value) (o s : Nat), sizeT P t = some s → o + s ≤ A.size → o + s ≤ B.size → VRs C ρ O w xs ((A.toList.drop o).take s) → VRs C ρ O w ys ((B.toList.drop o).take s) →
    ∀ n, d ≤ n → ∀ w' : World, ∃ x y, (part t A o).run P w' = .ok x w' ∧ (part t B o).run P w' = .ok y w' ∧ (Op.equalIn n t x y).run P w' = .ok (e.eval C.F C.η).toBool w'

theorem getElem_of_take {A : Array Value} {o s : Nat} {u : Value} (h : (A.toList.drop o).take s = [u]) : A[o]? = some u := by
  have : ((A.toList.drop o).take s)[0]? = some u := by rw [h]; rfl
  rw [List.getElem?_take] at this
  split at this
  · simpa using this
  · cases this

theorem part_leaf {P : Program} {t : TypeId} {A : Array Value} {o : Nat} {u : Value} (ht : isAggT P t = some false) (h : A[o]? = some u) (w' : World) : (part t A o).run P w' = .ok u w' := by
  simp [part, run_isAggT ht, h]
theorem part_agg {P : Program} {t : TypeId} {A : Array Value} {o s : Nat} (ht : isAggT P t = some true) (hs : sizeT P t = some s) (w' : World) : (part t A o).run P w' = .ok (.agg (A.extract o (o + s))) w' := by
  simp [part, run_isAggT ht, run_sizeT hs]

mutual
theorem eqT_sound {P : Program} {O : Nat → Prop} : ∀ (d : Nat) (t : TypeId) (xs ys : List AV) (e : T), eqT P d t xs ys = some e → EqAt C P d t xs ys e ρ O w
  | 0, _, _, _, _, h => by simp [eqT] at h
  | d + 1, t, xs, ys, e, h => by
    intro A B o s hs hA hB hx hy n hn w'
    obtain ⟨n, rfl⟩ : ∃ m, n = m + 1 := ⟨n - 1, by omega⟩
    simp only [eqT, PV.und_of, PV.stood_of] at h
    split at h
    · rename_i k hu
      have ht : isAggT P t = some false := by simp [isAggT, PV.und_of, hu]
      split at h
      · rename_i k1 a k2 b
        split at h
        · rename_i hk
          obtain ⟨rfl, rfl⟩ := hk
          simp only [Option.some.injEq] at h
          subst h
          obtain ⟨u, hu1, hu2⟩ := VRs.one hx
          obtain ⟨v, hv1, hv2⟩ := VRs.one hy
          have e1 := VR.int_inv hu2
          have e2 := VR.int_inv hv2
          subst e1; subst e2
          refine ⟨_, _, part_leaf ht (getElem_of_take hu1) w', part_leaf ht (getElem_of_take hv1) w', ?_⟩
          rw [run_equalIn_int w' n t _ _ _ _ hu, eval_cm]; rfl
        · cases h
      · cases h
    · rename_i hu
      have ht : isAggT P t = some false := by simp [isAggT, PV.und_of, hu]
      split at h
      · rename_i a b
        simp only [Option.some.injEq] at h
        subst h
        obtain ⟨u, hu1, hu2⟩ := VRs.one hx
        obtain ⟨v, hv1, hv2⟩ := VRs.one hy
        have e1 := VR.bool_inv hu2
        have e2 := VR.bool_inv hv2
        subst e1; subst e2
        refine ⟨_, _, part_leaf ht (getElem_of_take hu1) w', part_leaf ht (getElem_of_take hv1) w', ?_⟩
        rw [run_equalIn_bool' w' n t _ _ hu, T.eval_mk]; rfl
      · cases h
    · rename_i fs hu
      have ht : isAggT P t = some true := by simp [isAggT, PV.und_of, hu]
      cases hst' : P.stoodInHeld t with
      | true => simp [hst'] at h
      | false =>
        simp only [hst', Bool.false_eq_true, if_false] at h
        have hf : P.fieldsOf t = fs := by simp [Program.fieldsOf, hu]
        refine ⟨_, _, part_agg ht hs w', part_agg ht hs w', ?_⟩
        rw [run_equalIn_struct w' n t _ _ (by rw [hf]; exact hu) hst', hf]
        exact eqGo_sound d n (by omega) fs.toList xs ys e h (A.extract o (o + s)) (B.extract o (o + s))
          (by simpa [Array.toList_extract, List.extract] using hx) (by simpa [Array.toList_extract, List.extract] using hy) w'
    · rename_i m el hu
      have ht : isAggT P t = some true := by simp [isAggT, PV.und_of, hu]
      cases hel : sizeT P el with
      | none => simp [hel] at h
      | some se =>
        simp only [hel] at h
        obtain ⟨i, hi⟩ : ∃ i, P.info? el = some i := by
          unfold sizeT at hel
          rw [PV.info_of] at hel
          cases hi : P.info? el with
          | none => simp [hi] at hel
          | some i => exact ⟨i, rfl⟩
        have hse : P.cellsOf el = se := by
          unfold sizeT at hel
          rw [PV.info_of] at hel
          simp only [hi, Option.map_some, Option.some.injEq] at hel
          simp [Program.cellsOf, hi, hel]
        refine ⟨_, _, part_agg ht hs w', part_agg ht hs w', ?_⟩
        rw [run_equalIn_array w' n _ _ hu hi, hse, List.range_eq_range']
        exact eqArr_sound d n (by omega) el se hel m 0 xs ys e h (A.extract o (o + s)) (B.extract o (o + s))
          (by simpa [Array.toList_extract, List.extract] using hx) (by simpa [Array.toList_extract, List.extract] using hy) w'
    · cases h
theorem eqGo_sound {P : Program} {O : Nat → Prop} : ∀ (d n : Nat), d ≤ n → ∀ (fs : List Field) (xs ys : List AV) (e : T), eqGo P (eqT P d) xs ys fs = some e → ∀ (X Y : Array Value),
    VRs C ρ O w xs X.toList → VRs C ρ O w ys Y.toList → ∀ w' : World, (Op.eqFields n X Y fs).run P w' = .ok (e.eval C.F C.η).toBool w'
  | d, n, hn, [], xs, ys, e, h, X, Y, hx, hy, w' => by
    simp only [eqGo, Option.some.injEq] at h
    subst h
    simp [Op.eqFields, litB, T.eval, D.toBool]
  | d, n, hn, f :: fs, xs, ys, e, h, X, Y, hx, hy, w' => by
    simp only [eqGo] at h
    split at h
    · cases h
    · rename_i hname
      split at h
      · cases h
      · rename_i s hs
        split at h
        · rename_i hle
          split at h
          · rename_i a b ha hb
            simp only [Option.some.injEq] at h
            subst h
            have hxl := hx.length
            have hyl := hy.length
            simp only [Array.length_toList] at hxl hyl
            obtain ⟨x, y, p1, p2, p3⟩ := eqT_sound d f.type _ _ a ha X Y f.offset s hs (by omega) (by omega) ((hx.drop _).take _) ((hy.drop _).take _) n hn w'
            have := eqGo_sound d n hn fs xs ys b hb X Y hx hy w'
            simp only [Op.eqFields, ne_eq, hname, not_false_eq_true, if_true, Sem.run_bind, p1, p2, p3, Result.andThen_ok]
            rw [eval_ite]
            cases hab : (a.eval C.F C.η).toBool
            · simp [litB, T.eval, D.toBool]
            · simpa using this
          · cases h
        · cases h
theorem eqArr_sound {P : Program} {O : Nat → Prop} : ∀ (d n : Nat), d ≤ n → ∀ (el : TypeId) (s : Nat), sizeT P el = some s → ∀ (m i : Nat) (xs ys : List AV) (e : T), eqArr (eqT P d) el s m i xs ys = some e → ∀ (X Y : Array Value),
    VRs C ρ O w xs X.toList → VRs C ρ O w ys Y.toList → ∀ w' : World, (Op.eqItems n el s X Y (List.range' i m)).run P w' = .ok (e.eval C.F C.η).toBool w'
  | d, n, hn, el, s, hs, 0, i, xs, ys, e, h, X, Y, hx, hy, w' => by
    simp only [eqArr, Option.some.injEq] at h
    subst h
    simp [Op.eqItems, litB, T.eval, D.toBool]
  | d, n, hn, el, s, hs, m + 1, i, xs, ys, e, h, X, Y, hx, hy, w' => by
    simp only [eqArr] at h
    split at h
    · rename_i hle
      split at h
      · rename_i a b ha hb
        simp only [Option.some.injEq] at h
        subst h
        have hxl := hx.length
        have hyl := hy.length
        simp only [Array.length_toList] at hxl hyl
        obtain ⟨x, y, p1, p2, p3⟩ := eqT_sound d el _ _ a ha X Y (i * s) s hs (by omega) (by omega) ((hx.drop _).take _) ((hy.drop _).take _) n hn w'
        have := eqArr_sound d n hn el s hs m (i + 1) xs ys b hb X Y hx hy w'
        simp only [List.range'_succ, Op.eqItems, Sem.run_bind, p1, p2, p3, Result.andThen_ok]
        rw [eval_ite]
        cases hab : (a.eval C.F C.η).toBool
        · simp [litB, T.eval, D.toBool]
        · simpa using this
      · cases h
    · cases h
end
end
end Go.Sx
end
section
namespace Go.Sx
open Go

section
variable {C : Ctx} {Pre : Nat → List D → Prop} {ρ : Nat → Option Nat} {w : World} {hl : Nat → Option Blk} {a : Act} {o : Oper}

theorem binA_sound {op : BinOp} {t : TypeId} {x y : Operand} {vx vy v : AV} {ux uy : Value} {O : Nat → Prop} (h : (binA C.P op t vx vy).Ev C Pre v)
    (hx : VR C ρ O w vx ux) (hy : VR C ρ O w vy uy) (w' : World) :
    ∃ u, (do eqGuard op t x y ux uy; binOp op t ux uy : Sem Value).run C.P w' = .ok u w' ∧ VR C ρ O w v u := by
  unfold binA at h
  simp only [PV.und_of, PV.eqg_of] at h
  split at h
  · rename_i k a k' b
    obtain rfl := VR.int_inv hx
    obtain rfl := VR.int_inv hy
    split at h
    · obtain ⟨ar, har, h⟩ := X.ev_bopt h
      obtain ⟨hge, h⟩ := X.ev_bwant h
      obtain rfl := X.ev_ret h
      rw [eval_cm] at hge
      simp only [arOf, Option.some.injEq] at har
      subst har
      have hge' : ¬ ((b.eval C.F C.η).toInt < 0) := by simpa [Cm.eval, litI, T.eval, D.toInt] using hge
      refine ⟨.int k ((T.mk (.ar .shl k) [a, b]).eval C.F C.η).toInt, ?_, by simp only [VR]⟩
      simp only [Sem.run_bind, eqGuard_int, Result.andThen_ok]
      rw [eval_ar]
      simp [binOp, Op.shift, hge', Ar.eval]
    · obtain ⟨ar, har, h⟩ := X.ev_bopt h
      obtain ⟨hge, h⟩ := X.ev_bwant h
      obtain rfl := X.ev_ret h
      rw [eval_cm] at hge
      simp only [arOf, Option.some.injEq] at har
      subst har
      have hge' : ¬ ((b.eval C.F C.η).toInt < 0) := by simpa [Cm.eval, litI, T.eval, D.toInt] using hge
      refine ⟨.int k ((T.mk (.ar .shr k) [a, b]).eval C.F C.η).toInt, ?_, by simp only [VR]⟩
      simp only [Sem.run_bind, eqGuard_int, Result.andThen_ok]
      rw [eval_ar]
      simp [binOp, Op.shift, hge', Ar.eval]
    · obtain ⟨hk, h2⟩ := X.ev_bguard h
      clear h
      obtain rfl : k = k' := by simpa using hk
      have h := h2
      clear h2
      obtain ⟨ar, har, h⟩ := X.ev_bopt h
      obtain ⟨hne, h⟩ := X.ev_bwant h
      obtain rfl := X.ev_ret h
      rw [eval_cm] at hne
      have hne' : (b.eval C.F C.η).toInt ≠ 0 := by simpa [Cm.eval, litI, T.eval, D.toInt] using hne
      refine ⟨.int k ((T.mk (.ar ar k) [a, b]).eval C.F C.η).toInt, ?_, by simp only [VR]⟩
      simp only [Sem.run_bind, eqGuard_int, Result.andThen_ok]
      rw [arOf_int C.P w' har (by simp only [arOf, Option.some.injEq] at har; subst har; simp) (fun _ => hne') t, eval_ar]
    · obtain ⟨hk, h2⟩ := X.ev_bguard h
      clear h
      obtain rfl : k = k' := by simpa using hk
      have h := h2
      clear h2
      obtain ⟨ar, har, h⟩ := X.ev_bopt h
      obtain ⟨hne, h⟩ := X.ev_bwant h
      obtain rfl := X.ev_ret h
      rw [eval_cm] at hne
      have hne' : (b.eval C.F C.η).toInt ≠ 0 := by simpa [Cm.eval, litI, T.eval, D.toInt] using hne
      refine ⟨.int k ((T.mk (.ar ar k) [a, b]).eval C.F C.η).toInt, ?_, by simp only [VR]⟩
      simp only [Sem.run_bind, eqGuard_int, Result.andThen_ok]
      rw [arOf_int C.P w' har (by simp only [arOf, Option.some.injEq] at har; subst har; simp) (fun _ => hne') t, eval_ar]
    · rename_i n1 n2 n3 n4
      obtain ⟨hk, h2⟩ := X.ev_bguard h
      clear h
      obtain rfl : k = k' := by simpa using hk
      have h := h2
      clear h2
      cases har : arOf op with
      | some ar =>
        simp only [har] at h
        obtain rfl := X.ev_ret h
        refine ⟨.int k ((T.mk (.ar ar k) [a, b]).eval C.F C.η).toInt, ?_, by simp only [VR]⟩
        simp only [Sem.run_bind, eqGuard_int, Result.andThen_ok]
        rw [arOf_int C.P w' har (by cases op <;> simp_all [arOf] <;> subst har <;> simp) (by cases op <;> simp_all [arOf] <;> subst har <;> simp) t, eval_ar]
      | none =>
        cases hcm : cmOf op with
        | some c =>
          simp only [har, hcm] at h
          obtain rfl := X.ev_ret h
          refine ⟨.bool ((T.mk (.cm c) [a, b]).eval C.F C.η).toBool, ?_, by simp only [VR]⟩
          simp only [Sem.run_bind, eqGuard_int, Result.andThen_ok]
          rw [cmOf_int C.P w' hcm t, eval_cm]
        | none => simp only [har, hcm] at h; exact h.elim
  · rename_i a b
    obtain rfl := VR.bool_inv hx
    obtain rfl := VR.bool_inv hy
    split at h
    · obtain ⟨hb, h⟩ := X.ev_bguard h
      obtain rfl := X.ev_ret h
      have hu : C.P.underlying t = some .bool := by
        split at hb
        · assumption
        · cases hb
      refine ⟨.bool ((T.mk .beq [a, b]).eval C.F C.η).toBool, ?_, by simp only [VR]⟩
      simp only [Sem.run_bind, eqGuard_bool, Result.andThen_ok, binOp, Op.equal, Op.maxDepth]
      rw [run_equalIn_bool' w' 9999 t _ _ hu, T.eval_mk]; rfl
    · obtain ⟨hb, h⟩ := X.ev_bguard h
      obtain rfl := X.ev_ret h
      have hu : C.P.underlying t = some .bool := by
        split at hb
        · assumption
        · cases hb
      refine ⟨.bool ((T.mk .not [T.mk .beq [a, b]]).eval C.F C.η).toBool, ?_, by simp only [VR]⟩
      simp only [Sem.run_bind, eqGuard_bool, Result.andThen_ok, binOp, Op.equal, Op.maxDepth]
      rw [run_equalIn_bool' w' 9999 t _ _ hu, T.eval_mk]
      simp only [T.evals, Prim.eval, T.eval_mk, Result.andThen_ok, Sem.run_pure, D.toBool]
    · exact h.elim
  · rename_i a b
    simp only [VR] at hx hy
    subst hx; subst hy
    have hg : ∀ p q : ByteArray, ∀ w' : World, (eqGuard op t x y (.string p) (.string q)).run C.P w' = .ok () w' := fun p q w' => by
      unfold eqGuard; cases op <;> simp
    split at h
    · obtain rfl := X.ev_ret h
      refine ⟨.bool ((T.mk .seq [a, b]).eval C.F C.η).toBool, ?_, by simp only [VR]⟩
      simp only [Sem.run_bind, hg, Result.andThen_ok, binOp, Op.stringOp, Sem.run_pure, T.eval_mk, T.evals, Prim.eval, D.toBool, ByteArray.toList_eq]
    · obtain rfl := X.ev_ret h
      refine ⟨.bool ((T.mk .not [T.mk .seq [a, b]]).eval C.F C.η).toBool, ?_, by simp only [VR]⟩
      simp only [Sem.run_bind, hg, Result.andThen_ok, binOp, Op.stringOp, Sem.run_pure, T.eval_mk, T.evals, Prim.eval, D.toBool, ByteArray.toList_eq]
    · exact h.elim
  · rename_i l m
    simp only [VR] at hx hy
    obtain ⟨X1, rfl, hx⟩ := hx
    obtain ⟨Y1, rfl, hy⟩ := hy
    have key : ∀ (e : T), eqAgg C.P t l m = some e → ∀ w'', (Op.equalIn 10000 t (.agg X1) (.agg Y1)).run C.P w'' = .ok (e.eval C.F C.η).toBool w'' := by
      intro e he w''
      unfold eqAgg at he
      split at he
      · rename_i s hs hag
        split at he
        · rename_i hlen
          have hxl := hx.length
          have hyl := hy.length
          simp only [Array.length_toList] at hxl hyl
          obtain ⟨x', y', p1, p2, p3⟩ := eqT_sound (P := C.P) 20 t l m e he X1 Y1 0 s hs (by omega) (by omega)
            (by rw [List.drop_zero, List.take_of_length_le (by simp; omega)]; exact hx) (by rw [List.drop_zero, List.take_of_length_le (by simp; omega)]; exact hy) 10000 (by omega) w''
          rw [part_agg (P := C.P) hag hs] at p1 p2
          simp only [Result.ok.injEq, and_true] at p1 p2
          subst p1; subst p2
          have e1 : X1.extract 0 (0 + s) = X1 := by rw [Nat.zero_add, ← hlen.1, hxl]; simp
          have e2 : Y1.extract 0 (0 + s) = Y1 := by rw [Nat.zero_add, ← hlen.2, hyl]; simp
          rw [e1, e2] at p3
          exact p3
        · cases he
      · cases he
    split at h
    · obtain ⟨hg, h⟩ := X.ev_bguard h
      obtain ⟨e, he, h⟩ := X.ev_bopt h
      obtain rfl := X.ev_ret h
      have hg' : C.P.eqGuardType C.P.depth t = false := by simpa using hg
      refine ⟨.bool (e.eval C.F C.η).toBool, ?_, by simp [VR]⟩
      simp only [Sem.run_bind, run_eqGuard_agg w' .eql t x y X1 Y1 hg', Result.andThen_ok, run_eql_struct, key e he]
    · obtain ⟨hg, h⟩ := X.ev_bguard h
      obtain ⟨e, he, h⟩ := X.ev_bopt h
      obtain rfl := X.ev_ret h
      have hg' : C.P.eqGuardType C.P.depth t = false := by simpa using hg
      refine ⟨.bool (!(e.eval C.F C.η).toBool), ?_, by simp [VR, T.eval_mk, T.evals, Prim.eval, D.toBool]⟩
      simp only [Sem.run_bind, run_eqGuard_agg w' .neq t x y X1 Y1 hg', Result.andThen_ok, run_neq_struct, key e he]
    · exact h.elim
  · exact h.elim

theorem unA_sound {op : UnOp} {x v : AV} {u : Value} {O : Nat → Prop} (h : unA op x = some v) (hx : VR C ρ O w x u) (w' : World) :
    ∃ y, (Op.unary op u).run C.P w' = .ok y w' ∧ VR C ρ O w v y := by
  unfold unA at h
  split at h
  · rename_i k a
    obtain rfl := VR.int_inv hx
    split at h
    · simp only [Option.some.injEq] at h; subst h
      exact ⟨.int k ((T.mk (.ar .sub k) [litI 0, a]).eval C.F C.η).toInt, by rw [eval_ar]; simp [Op.unary, Op.intArith, Ar.eval, litI, T.eval, D.toInt], by simp only [VR]⟩
    · simp only [Option.some.injEq] at h; subst h
      exact ⟨.int k ((T.mk (.ar .xor k) [litI (if k.signed then -1 else k.max), a]).eval C.F C.η).toInt, by rw [eval_ar]; simp [Op.unary, Op.intBits, Ar.eval, bitsOf, litI, T.eval, D.toInt], by simp only [VR]⟩
    · cases h
  · rename_i a
    obtain rfl := VR.bool_inv hx
    split at h
    · simp only [Option.some.injEq] at h; subst h
      exact ⟨.bool (!(a.eval C.F C.η).toBool), by simp [Op.unary], by simp [VR, T.eval_mk, T.evals, Prim.eval, D.toBool]⟩
    · cases h
  · cases h

theorem convA_sound {s d : TypeId} {x v : AV} {u : Value} {O : Nat → Prop} (h : convA C.P s d x = some v) (hx : VR C ρ O w x u) (w' : World) :
    ∃ y, (convert s d u).run C.P w' = .ok y w' ∧ VR C ρ O w v y := by
  unfold convA at h
  simp only [PV.und_of] at h
  cases hs : C.P.underlying s with
  | none => simp [hs] at h
  | some ds =>
    cases hd : C.P.underlying d with
    | none => simp [hs, hd] at h
    | some dd =>
      simp only [hs, hd, Option.bind_eq_bind, Option.bind_some] at h
      split at h
      · rename_i k k' t
        obtain rfl := VR.int_inv hx
        simp only [Option.some.injEq] at h; subst h
        exact ⟨.int k (k.wrap (t.eval C.F C.η).toInt), by simp [convert, run_undl hs, run_undl hd, Conv.intToInt], by simp [VR, T.eval_mk, T.evals, Prim.eval, D.toInt]⟩
      · rename_i t
        simp only [VR] at hx
        subst hx
        simp only [Option.some.injEq] at h; subst h
        exact ⟨.string (t.eval C.F C.η).toStr, by simp [convert, run_undl hs, run_undl hd], by simp only [VR]⟩
      · cases h

theorem mnA_sound {p : Prim} {f : Value → Value → Sem Value} (hf : ∀ k x k' y (w' : World), (f (.int k x) (.int k' y)).run C.P w' = .ok (.int k (p.eval C.F [.int x, .int y]).toInt) w')
    (hp : ∀ F d e, p.eval F [d, e] = p.eval F [.int d.toInt, .int e.toInt]) {O : Nat → Prop} :
    ∀ {l : List AV} {x v : AV} {u : Value} {us : List Value}, mnA p x l = some v → VR C ρ O w x u → VRs C ρ O w l us → ∀ w' : World, ∃ y, (us.foldlM f u).run C.P w' = .ok y w' ∧ VR C ρ O w v y
  | [], x, v, u, us, h, hx, hl, w' => by
    match us, hl with
    | [], _ =>
      cases x <;> simp [mnA] at h
      subst h
      exact ⟨u, by simp, hx⟩
    | _ :: _, hl => simp only [VRs] at hl
  | y :: l, x, v, u, us, h, hx, hl, w' => by
    match us, hl with
    | [], hl => simp only [VRs] at hl
    | z :: us, hl =>
      simp only [VRs] at hl
      cases x <;> try (simp [mnA] at h; done)
      rename_i k a
      have hl1 := hl.1
      have hl2 := hl.2
      cases y <;> try (simp [mnA] at h; done)
      rename_i k' b _
      simp only [mnA] at h
      obtain rfl := VR.int_inv hx
      obtain rfl := VR.int_inv hl1
      have hv : VR C ρ O w (.int k (T.mk p [a, b])) (.int k (p.eval C.F [.int (a.eval C.F C.η).toInt, .int (b.eval C.F C.η).toInt]).toInt) := by
        simp only [VR, T.eval_mk, T.evals]
        rw [← hp]
      obtain ⟨y, h1, h2⟩ := mnA_sound hf hp h hv hl2 w'
      refine ⟨y, ?_, h2⟩
      simp only [List.foldlM_cons, Sem.run_bind, hf, Result.andThen_ok]
      exact h1

end
end Go.Sx
end
section
namespace Go.Sx
open Go

section
variable {C : Ctx} {Pre : Nat → List D → Prop} {ρ : Nat → Option Nat} {w : World} {hl : Nat → Option Blk} {a : Act} {o : Oper}

theorem VR.notBad {v : AV} {u : Value} {O : Nat → Prop} (h : VR C ρ O w v u) : v ≠ .bad := by
  intro e; subst e; simp only [VR] at h

theorem addrOff_sound {n : Nat} {x v : AV} {u : Value} {O : Nat → Prop} (h : addrOff n x = some v) (hx : VR C ρ O w x u) : ∃ p, u = .pointer (some p) ∧ VR C ρ O w v (.pointer (some (p.add n))) := by
  cases x <;> simp only [addrOff, Option.some.injEq, reduceCtorEq] at h
  · subst h
    simp only [VR] at hx
    obtain ⟨k, hk, rfl⟩ := hx
    exact ⟨_, rfl, by simp only [VR, Addr.add_none]; exact ⟨k, hk, rfl⟩⟩
  · subst h
    simp only [VR] at hx
    subst hx
    exact ⟨_, rfl, by simp only [VR, Addr.add_none]⟩
  · subst h
    simp only [VR] at hx
    obtain ⟨b, s, rfl, h1, h2, h3⟩ := hx
    exact ⟨_, rfl, by simp only [VR, Addr.add_none]; exact ⟨b, s, by rw [Nat.add_assoc], h1, h2, h3⟩⟩

theorem natLit_sound {x : AV} {n : Nat} {u : Value} {O : Nat → Prop} (h : natLit x = some n) (hx : VR C ρ O w x u) : ∃ k, u = .int k (n : Int) := by
  unfold natLit at h
  split at h
  · rename_i k m
    split at h
    · rename_i h0
      simp only [Option.some.injEq] at h
      obtain rfl := VR.int_inv hx
      refine ⟨k, ?_⟩
      simp only [T.eval, D.toInt, ← h]
      congr 1; omega
    · cases h
  · cases h

theorem run_storeCells {P : Program} {k : Nat} {e : TypeId} : ∀ (vs : List Value) (o i : Nat) (cs : Array Value) (w : World), w.heap[k]? = some (.cells cs e (0, 0)) → o + i + vs.length ≤ cs.size →
    (∀ v ∈ vs, v.oneCell' = true) →
    ∃ w' cs', (storeCells ⟨k, o, none⟩ vs i).run P w = .ok () w' ∧ w'.heap[k]? = some (.cells cs' e (0, 0)) ∧ cs'.toList = cs.toList.take (o + i) ++ vs ++ cs.toList.drop (o + i + vs.length) ∧
      w'.heap.size = w.heap.size ∧ (∀ j, j ≠ k → w'.heap[j]? = w.heap[j]?) ∧ w'.os = w.os ∧ w'.tape = w.tape ∧ w'.output = w.output
  | [], o, i, cs, w, hk, _, _ => ⟨w, cs, by simp [storeCells], hk, by simp, rfl, fun _ _ => rfl, rfl, rfl, rfl⟩
  | v :: vs, o, i, cs, w, hk, hle, hone => by
    simp only [List.length_cons] at hle
    have hlt : o + i < cs.size := by omega
    have hcell : w.cell? ⟨k, o + i, none⟩ = some cs[o + i] := by rw [cell_of_block hk]; exact Array.getElem?_eq_getElem hlt
    have hfr : w.frozen? ⟨k, o + i, none⟩ = false := by simp [World.frozen?, hk]
    have hkl : k < w.heap.size := by
      rcases Nat.lt_or_ge k w.heap.size with h | h
      · exact h
      · rw [Array.getElem?_eq_none h] at hk; cases hk
    let w1 := w.setCell ⟨k, o + i, none⟩ v
    have hk1 : w1.heap[k]? = some (.cells (cs.setIfInBounds (o + i) v) e (0, 0)) := by
      simp only [w1, World.setCell, Array.getElem?_modify, if_true]
      rw [hk]; simp
    obtain ⟨w', cs', h1, h2, h3, h4, h5, h6, h7, h8⟩ := run_storeCells (P := P) vs o (i + 1) (cs.setIfInBounds (o + i) v) w1 hk1 (by simp; omega) (fun x hx => hone x (List.mem_cons_of_mem _ hx))
    refine ⟨w', cs', ?_, h2, ?_, ?_, ?_, h6, h7, h8⟩
    · simp only [storeCells, Sem.run_bind, Addr.add_none]
      rw [run_store P w ⟨k, o + i, none⟩ v .plain (hone v List.mem_cons_self)]
      simp only [hcell, hfr, Bool.false_eq_true, if_false, Result.andThen_ok]
      exact h1
    · rw [h3]
      have hlt' : o + i < cs.toList.length := by simpa using hlt
      simp only [Array.toList_setIfInBounds, List.length_cons]
      rw [show o + (i + 1) = o + i + 1 from by omega, List.take_add_one]
      simp only [List.getElem?_set_self hlt', Option.toList_some, List.append_assoc, List.singleton_append]
      rw [List.take_set_of_le (by omega), List.drop_set_of_lt (by omega)]
      simp only [List.cons_append]
      rw [show o + i + 1 + vs.length = o + i + (vs.length + 1) from by omega]
    · rw [h4]; simp [w1, World.setCell]
    · intro j hj
      rw [h5 j hj]
      simp only [w1, World.setCell, Array.getElem?_modify]
      rw [if_neg (by exact fun e => hj e.symm)]

theorem VRs.ones {O : Nat → Prop} : ∀ {l : List AV} {us : List Value}, VRs C ρ O w l us → l.all AV.one = true → ∀ u ∈ us, u.oneCell' = true
  | [], [], _, _, u, hu => by cases hu
  | v :: l, u :: us, h, ha, x, hx => by
    simp only [VRs] at h
    simp only [List.all_cons, Bool.and_eq_true] at ha
    rcases List.mem_cons.1 hx with rfl | hx
    · have hv := h.1
      cases v <;> try (simp [AV.one] at ha; done)
      all_goals simp only [VR, Reads] at hv
      all_goals first
        | (subst hv; rfl)
        | (obtain ⟨y, hy⟩ := hv; first | (subst hy; rfl) | (rw [hy.2]; rfl) | (obtain ⟨z, hz⟩ := hy; rw [hz.1]; rfl))
    · exact VRs.ones h.2 ha.2 x hx
  | [], _ :: _, h, _, _, _ => by simp only [VRs] at h
  | _ :: _, [], h, _, _, _ => by simp only [VRs] at h
end
end Go.Sx
end
section
namespace Go.Sx
open Go

/-- What a call has to do, seen from its caller. -/
def CallR (C : Ctx) (hl : Nat → Option Blk) (ρ : Nat → Option Nat) (eff : Eff) (e : Ending) (w w' : World) : Prop :=
  ∃ u ρ', e = .returned u ∧ Hp C (over hl eff.ws) ρ' w' ∧ Adv C hl ρ w (over hl eff.ws) ρ' w' ∧ VR C ρ' (Own C (over hl eff.ws) ρ') w' eff.v u

def CallOk (C : Ctx) (Pre : Nat → List D → Prop) (call : FuncId → List AV → X Eff) (hl : Nat → Option Blk) (nx : Nat) (ρ : Nat → Option Nat) (w : World) : Prop :=
  ∀ f args eff us, (call f args).Ev C Pre eff → (∀ b, nx ≤ b → b < eff.nx → hl b = none) → VRs C ρ (Own C hl ρ) w args us →
    (∃ fn, C.P.funcs[f]? = some fn ∧ (fn.name == "runtime.NumGoroutine") = false ∧ fn.body.isNone = false) ∧
    Calls C.P f us.toArray w (fun e w' => CallR C hl ρ eff e w w')

section
variable {C : Ctx} {Pre : Nat → List D → Prop} {ρ : Nat → Option Nat} {w : World} {hl : Nat → Option Blk} {a : Act} {o : Oper} {tl : Nat → AV} {nt nx : Nat}

theorem VRs.map {O : Nat → Prop} {α : Type} {f : α → AV} {g : α → Value} : ∀ {l : List α}, (∀ x ∈ l, VR C ρ O w (f x) (g x)) → VRs C ρ O w (l.map f) (l.map g)
  | [], _ => by simp [VRs]
  | x :: l, h => by
    simp only [List.map_cons, VRs]
    exact ⟨h x List.mem_cons_self, VRs.map fun y hy => h y (List.mem_cons_of_mem _ hy)⟩

theorem builtinA_sound {b : Builtin} {ats : Array TypeId} {type : TypeId} {cs : Array Bool} {args : List AV} {v : AV} {us : List Value} {O : Nat → Prop} (h : builtinA C.P b ats args = some v) (hv : VRs C ρ O w args us) (w' : World) :
    ∃ u, (builtin b ats type cs us.toArray).run C.P w' = .ok (.value u) w' ∧ VR C ρ O w v u := by
  unfold builtinA at h
  simp only [PV.und_of] at h
  split at h
  · rename_i x
    obtain ⟨u, rfl, hu⟩ := VRs.one hv
    cases ht : ats[0]? with
    | none => simp [ht] at h
    | some t =>
      cases hd : C.P.underlying t with
      | none => simp [ht, hd] at h
      | some d =>
        simp only [ht, hd, Option.bind_eq_bind, Option.bind_some] at h
        have hlen : ∀ n : Nat, (Builtin.len_ ats type #[u]).run C.P w' = .ok (goInt n) w' → (builtin .len ats type cs #[u]).run C.P w' = .ok (.value (.int .i64 n)) w' := by
          intro n hn
          simp only [builtin, Sem.run_bind, hn, Result.andThen_ok, Sem.run_pure, goInt]
        split at h
        · rename_i _ n _
          simp only [Option.some.injEq] at h; subst h
          exact ⟨_, hlen n (by simp [Builtin.len_, ht, run_undl hd]), by simp [VR, litI, T.eval, D.toInt]⟩
        · rename_i s
          simp only [Option.some.injEq] at h; subst h
          simp only [VR] at hu
          subst hu
          refine ⟨_, hlen (s.eval C.F C.η).toStr.data.toList.length (by simp [Builtin.len_, ht, run_undl hd]), by simp [VR, T.eval_mk, T.evals, Prim.eval, D.toInt]⟩
        · simp only [Option.some.injEq] at h; subst h
          simp only [VR] at hu
          obtain ⟨k, hk, rfl⟩ := hu
          rename_i n _
          exact ⟨_, hlen n (by simp [Builtin.len_, ht, run_undl hd]), by simp [VR, litI, T.eval, D.toInt]⟩
        · simp only [Option.some.injEq] at h; subst h
          simp only [VR] at hu
          subst hu
          exact ⟨_, hlen 0 (by simp [Builtin.len_, ht, run_undl hd]), by simp [VR, litI, T.eval, D.toInt]⟩
        · rename_i row dd
          simp only [Option.some.injEq] at h; subst h
          simp only [VR, Reads] at hu
          obtain ⟨p, cap, rfl, _⟩ := hu
          exact ⟨_, hlen (dd.eval C.F C.η).rows.length (by simp [Builtin.len_, ht, run_undl hd]), by simp [VR, T.eval_mk, T.evals, Prim.eval, D.toInt]⟩
        · cases h
  · rename_i x l
    match us, hv with
    | [], hv => simp only [VRs] at hv
    | u :: us, hv =>
      simp only [VRs] at hv
      obtain ⟨y, h1, h2⟩ := mnA_sound (f := Builtin.min2) (p := .mn) (fun k x k' y w' => rfl) (fun F d e => rfl) h hv.1 hv.2 w'
      exact ⟨y, by simp [builtin, Builtin.min_, h1], h2⟩
  · rename_i x l
    match us, hv with
    | [], hv => simp only [VRs] at hv
    | u :: us, hv =>
      simp only [VRs] at hv
      obtain ⟨y, h1, h2⟩ := mnA_sound (f := Builtin.max2) (p := .mx) (fun k x k' y w' => rfl) (fun F d e => rfl) h hv.1 hv.2 w'
      exact ⟨y, by simp [builtin, Builtin.max_, h1], h2⟩
  · cases h

theorem zero_one {z : AV} {v : Value} {O : Nat → Prop} (h : avOf v = z) (hz : z ≠ .bad) : VR C ρ O w z v := by subst h; exact avOf_VR hz

theorem range_flatten (n : Nat) (cs : Array Value) : ((Array.range (n * cs.size)).map (fun i => cs[i % cs.size]!)).toList = (List.replicate n cs.toList).flatten := by
  induction n with
  | zero => simp
  | succ n ih =>
    rw [List.replicate_succ', List.flatten_append, ← ih]
    simp only [Array.toList_map, Array.toList_range, List.flatten_cons, List.flatten_nil, List.append_nil]
    rw [Nat.add_mul, Nat.one_mul, List.range_add, List.map_append, List.map_map]
    congr 1
    apply List.ext_getElem
    · simp
    · intro i h1 h2
      simp at h1
      simp [Nat.mod_eq_of_lt h1, h1]

end
end Go.Sx
end
section
namespace Go.Sx
open Go
def sub64Entry : Array Value → Sem Value := fun args => do
  let (x, y, b) ← Extern.MathBitsCarry.three "Sub64" args
  pure (Extern.MathBitsCarry.pair ((x + Extern.MathBitsCarry.m64 - y - b) % Extern.MathBitsCarry.m64) (if x < y + b then 1 else 0))
theorem find_add {fn : Func} (hn : fn.name = "math/bits.Add64") (ho : fn.origin = "") : Extern.findNext fn = none ∧ Extern.find fn = some add64Entry := by
  have g1 : Extern.allGenericRows.lookup "math/bits.Add64" = none := by kernel_rfl
  have g2 : Extern.allTypedRows.lookup "math/bits.Add64" = none := by kernel_rfl
  have g3 : Extern.allRows.lookup "math/bits.Add64" = some add64Entry := by kernel_rfl
  have g4 : Extern.allNextRows.lookup "math/bits.Add64" = none := by kernel_rfl
  have g5 : Extern.allNextRows.lookup "" = none := by kernel_rfl
  unfold Extern.findNext Extern.find
  simp only [hn, ho, g1, g2, g3, g4, g5]
  exact ⟨rfl, rfl⟩
theorem find_sub {fn : Func} (hn : fn.name = "math/bits.Sub64") (ho : fn.origin = "") : Extern.findNext fn = none ∧ Extern.find fn = some sub64Entry := by
  have g1 : Extern.allGenericRows.lookup "math/bits.Sub64" = none := by kernel_rfl
  have g2 : Extern.allTypedRows.lookup "math/bits.Sub64" = none := by kernel_rfl
  have g3 : Extern.allRows.lookup "math/bits.Sub64" = some sub64Entry := by kernel_rfl
  have g4 : Extern.allNextRows.lookup "math/bits.Sub64" = none := by kernel_rfl
  have g5 : Extern.allNextRows.lookup "" = none := by kernel_rfl
  unfold Extern.findNext Extern.find
  simp only [hn, ho, g1, g2, g3, g4, g5]
  exact ⟨rfl, rfl⟩
theorem run_three {P : Program} {w : World} (s : String) (x y c : Int) (hc : c ≤ 1) : (Extern.MathBitsCarry.three s #[.int .u64 x, .int .u64 y, .int .u64 c]).run P w = .ok (x.toNat, y.toNat, c.toNat) w := by
  have hn : ¬ c.toNat > 1 := by omega
  change Sem.run P (do
    let c' ← asInt (.int .u64 c)
    if c'.toNat > 1 then unsupported (.noEntry ("extern/math/bits." ++ s ++ ": a carry that is neither 0 nor 1"))
    let x' ← asInt (.int .u64 x)
    let y' ← asInt (.int .u64 y)
    pure (x'.toNat, y'.toNat, c'.toNat)) w = _
  simp [asInt, asIntOf]
  exact hc
/-- A call of the two functions without a body. -/
theorem ext_run {P : Program} {f : FuncId} {b : Bool} (h : extOf (PV.of P) f = some b) {x y c : Int} (hc : c ≤ 1) (w : World) :
    (callFunc f #[.int .u64 x, .int .u64 y, .int .u64 c]).run P w =
      .ok (.value (.tuple #[.int .u64 ((if b then Xt.adds else Xt.subs).eval x y c), .int .u64 ((if b then Xt.addc else Xt.subb).eval x y c)])) w := by
  unfold extOf at h
  simp only [PV.funcs_of] at h
  split at h
  · rename_i fn hfn
    split at h
    · rename_i hb
      split at h
      · rename_i ho
        split at h
        · rename_i hn
          simp only [Option.some.injEq] at h
          subst h
          obtain ⟨h1, h2⟩ := find_add hn ho
          rw [run_callFunc_extern hfn (by rw [hn]; rfl) (by rw [hb]; rfl) h1 h2]
          unfold add64Entry
          simp only [Sem.run_bind, run_three _ x y c hc, Result.andThen_ok, Sem.run_pure]
          rfl
        · split at h
          · rename_i hn
            simp only [Option.some.injEq] at h
            subst h
            obtain ⟨h1, h2⟩ := find_sub hn ho
            rw [run_callFunc_extern hfn (by rw [hn]; rfl) (by rw [hb]; rfl) h1 h2]
            unfold sub64Entry
            simp only [Sem.run_bind, run_three _ x y c hc, Result.andThen_ok, Sem.run_pure, Extern.MathBitsCarry.pair, Extern.MathBitsCarry.m64]
            have e : ∀ q : Prop, [Decidable q] → Int.ofNat (if q then 1 else 0) = (if q then (1 : Int) else 0) := fun q _ => by split <;> rfl
            simp only [e]
            rfl
          · cases h
      · cases h
    · cases h
  · cases h
end Go.Sx
end
section
namespace Go.Sx
open Go

section
variable {C : Ctx} {Pre : Nat → List D → Prop} {ρ : Nat → Option Nat} {w : World} {hl : Nat → Option Blk} {a : Act} {tl : Nat → AV} {nt nx : Nat}

theorem VRs.map2 {O : Nat → Prop} {α : Type} {f : α → AV} {g : α → Value} {l : List α} (h : ∀ x ∈ l, VR C ρ O w (f x) (g x)) : VRs C ρ O w (l.map f) (l.map g) := VRs.map h

theorem fields_mapM {P : Program} {w' : World} : ∀ {fs : List Field} {l : List (Nat × Nat)}, fs.mapM (fun f => (sizeT P f.type).map fun s => (f.offset, s)) = some l →
    (fs.mapM (m := Sem) fun f => do pure (f.offset, ← sizeOf f.type)).run P w' = .ok l w'
  | [], l, h => by simp at h; subst h; simp
  | f :: fs, l, h => by
    rw [List.mapM_cons] at h
    simp only [Option.bind_eq_bind, Option.pure_def] at h
    cases hs : sizeT P f.type with
    | none => simp [hs] at h
    | some s =>
      cases hm : fs.mapM (fun f => (sizeT P f.type).map fun s => (f.offset, s)) with
      | none => simp [hs, hm] at h
      | some m =>
        simp only [hs, hm, Option.map_some, Option.bind_some, Option.some.injEq] at h
        subst h
        rw [List.mapM_cons]
        simp only [Sem.run_bind, run_sizeT hs, Result.andThen_ok, Sem.run_pure, fields_mapM hm]

theorem opEval_sound (hc : CtxOk C) {call : FuncId → List AV → X Eff} {o : Oper} {eff : Eff} (hT : TmR C tl hl ρ nt a w) (hH : Hp C hl ρ w)
    (hcall : CallOk C Pre call hl nx ρ w) (hfresh : ∀ b, nx ≤ b → b < eff.nx → hl b = none)
    (h : (opEval C.P C.G call tl hl nx o).Ev C Pre eff) : Sound1 C hl ρ o eff a w := by
  obtain ⟨dst, op, type, pos, after, guard⟩ := o
  unfold opEval at h
  simp only [PV.und_of, PV.info_of] at h
  replace h := X.ev_bguard h
  obtain ⟨hb, h⟩ := h
  have H : ∀ x ∈ op.operands, VR C ρ (Own C hl ρ) w (ev tl x) (a.eval x) := by
    intro x hx
    refine ev_VR hT ?_
    intro e
    have := List.all_eq_true.1 hb x (by simpa using hx)
    rw [e] at this
    simp [AV.isBad] at this
  clear hb
  cases op <;> simp only [Op.operands] at H <;> try (exact h.elim)
  case move x =>
    obtain rfl := X.ev_ret h
    exact sound_val hH (by simp [execOp]) (H x (by simp))
  case assign x =>
    obtain rfl := X.ev_ret h
    exact sound_val hH (by simp [execOp]) (H x (by simp))
  case pick c x y =>
    have Hc := H c (by simp)
    have Hx := H x (by simp)
    have Hy := H y (by simp)
    simp only at h
    cases hcv : ev tl c <;> simp only [hcv] at h Hc <;> try (exact h.elim)
    rename_i t
    have hct := VR.bool_inv Hc
    have run : ∀ b, a.eval c = .bool b → ∀ dst' ty p af g, (execOp a.eval ⟨dst', .pick c x y, ty, p, af, g⟩).run C.P w = .ok (.value (if b then a.eval x else a.eval y)) w := by
      intro b hb dst' ty p af g
      simp [execOp, hb, asBool]
    split at h
    · rename_i heq
      simp only [AV.bool.injEq] at heq; subst heq
      obtain rfl := X.ev_ret h
      have := run true (by rw [hct]; rfl) dst type pos after guard
      exact sound_val hH (by rw [this]; rfl) Hx
    · rename_i heq
      simp only [AV.bool.injEq] at heq; subst heq
      obtain rfl := X.ev_ret h
      have := run false (by rw [hct]; rfl) dst type pos after guard
      exact sound_val hH (by rw [this]; rfl) Hy
    · rename_i t' _ _ heq
      simp only [AV.bool.injEq] at heq; subst heq
      split at h
      · rename_i p q hp hq
        obtain rfl := X.ev_ret h
        rw [hp] at Hx; rw [hq] at Hy
        refine sound_val hH (run _ hct dst type pos after guard) ?_
        rw [VR.bool_inv Hx, VR.bool_inv Hy]
        simp only [VR, eval_ite]
        split <;> rfl
      · rename_i k p k' q hp hq
        split at h
        · rename_i hk
          subst hk
          obtain rfl := X.ev_ret h
          rw [hp] at Hx; rw [hq] at Hy
          refine sound_val hH (run _ hct dst type pos after guard) ?_
          rw [VR.int_inv Hx, VR.int_inv Hy]
          simp only [VR, T.eval_mk, T.evals, Prim.eval]
          split <;> rfl
        · exact h.elim
      · obtain ⟨r, h1, h2⟩ := X.ev_bind h
        have hr := X.ev_test h1
        obtain rfl := X.ev_ret h2
        refine sound_val hH (run _ hct dst type pos after guard) ?_
        rw [← hr]
        cases r
        · exact Hy
        · exact Hx
    · exact h.elim
  case alloc t =>
    obtain ⟨z, hz, h⟩ := X.ev_bopt h
    replace h := X.ev_bguard h
    obtain ⟨hg, h⟩ := h
    obtain rfl := X.ev_ret h
    obtain ⟨v, hv, hav⟩ := run_zero hz w
    simp only [Bool.and_eq_true, Bool.not_eq_true'] at hg
    have hzv := zero_one (C := C) (ρ := ρ) (w := w) (O := Own C hl ρ) hav (fun e => by subst e; simp [AV.isBad] at hg)
    refine sound_new (.ptr nx 0) hH (hfresh nx (Nat.le_refl _) (by simp)) (.pointer (some ⟨w.heap.size, 0, none⟩)) ?_ (hzv.cells (fun l e => by subst e; simp [AV.notTup] at hg)) (fun ρ' O' w' hn => by simp only [VR]; exact ⟨_, hn, rfl⟩)
    simp [execOp, Instr.alloc, hv, newVar, newRow]
  case box t x =>
    replace h := X.ev_bguard h
    obtain ⟨hg, h⟩ := h
    obtain rfl := X.ev_ret h
    refine sound_new (.ptr nx 0) hH (hfresh nx (Nat.le_refl _) (by simp)) (.pointer (some ⟨w.heap.size, 0, none⟩)) ?_ ((H x (by simp)).cells (fun l e => by rw [e] at hg; simp [AV.notTup] at hg)) (fun ρ' O' w' hn => by simp only [VR]; exact ⟨_, hn, rfl⟩)
    simp [execOp, Instr.box, newVar, newRow]
  case build t parts =>
    obtain ⟨z, hz, h⟩ := X.ev_bopt h
    replace h := X.ev_bguard h
    obtain ⟨hg, h⟩ := h
    obtain ⟨v, hv, hav⟩ := run_zero hz w
    simp only [Bool.and_eq_true, Bool.not_eq_true'] at hg
    have hzv := (zero_one (C := C) (ρ := ρ) (w := w) (O := Own C hl ρ) hav (fun e => by subst e; simp [AV.isBad] at hg)).cells (fun l e => by subst e; simp [AV.notTup] at hg)
    have hparts : ∀ (j : Nat) (p : Nat × AV) (q : Nat × Value), (parts.toList.map fun p => (p.1, ev tl p.2))[j]? = some p → (parts.toList.map fun p => (p.1, a.eval p.2))[j]? = some q →
        p.1 = q.1 ∧ VR C ρ (Own C hl ρ) w p.2 q.2 := by
      intro j p q hp hq
      simp only [List.getElem?_map, Option.map_eq_some_iff] at hp hq
      obtain ⟨x, hx, rfl⟩ := hp
      obtain ⟨y, hy, rfl⟩ := hq
      obtain rfl := Option.some.inj (hx.symm.trans hy)
      refine ⟨rfl, H _ ?_⟩
      have := List.mem_of_getElem? hx
      simp only [List.mem_toArray, List.mem_map]
      exact ⟨x, this, rfl⟩
    have hmap : (parts.map fun x => (x.1, a.eval x.2)).toList = parts.toList.map fun p => (p.1, a.eval p.2) := by simp
    split at h
    · rename_i fs hu
      obtain ⟨l, hm, h⟩ := X.ev_bopt h
      obtain ⟨m, hf, h⟩ := X.ev_bopt h
      obtain rfl := X.ev_ret h
      obtain ⟨ds, hd1, hd2⟩ := fillA_sound (place' := fun i => l.toArray[i]?) (fun i => by simp) hf hzv (by simp) hparts
      refine sound_val hH (u := .agg ds) ?_ (by simp only [VR]; exact ⟨ds, rfl, hd2⟩)
      have hfm : (fs.mapM (m := Sem) fun f => do pure (f.offset, ← sizeOf f.type)).run C.P w = .ok l.toArray w := by
        rw [← Array.toArray_toList (xs := fs)]
        rw [List.mapM_toArray]
        simp only [Sem.run_map, fields_mapM hm, Result.andThen_ok]
      simp only [execOp, Instr.build, Sem.run_bind, hv, Result.andThen_ok, run_undl hu, hfm, hmap, hd1, Sem.run_pure]
    · rename_i n el hu
      obtain ⟨s, hs, h⟩ := X.ev_bopt h
      obtain ⟨m, hf, h⟩ := X.ev_bopt h
      obtain rfl := X.ev_ret h
      obtain ⟨ds, hd1, hd2⟩ := fillA_sound (place' := fun i => some (i * s, s)) (fun i => rfl) hf hzv (by simp) hparts
      refine sound_val hH (u := .agg ds) ?_ (by simp only [VR]; exact ⟨ds, rfl, hd2⟩)
      simp only [execOp, Instr.build, Sem.run_bind, hv, Result.andThen_ok, run_undl hu, run_sizeT hs, hmap, hd1, Sem.run_pure]
    · exact h.elim
  case buildSlice t n parts =>
    have hparts : ∀ (j : Nat) (p : Nat × AV) (q : Nat × Value), (parts.toList.map fun p => (p.1, ev tl p.2))[j]? = some p → (parts.toList.map fun p => (p.1, a.eval p.2))[j]? = some q →
        p.1 = q.1 ∧ VR C ρ (Own C hl ρ) w p.2 q.2 := by
      intro j p q hp hq
      simp only [List.getElem?_map, Option.map_eq_some_iff] at hp hq
      obtain ⟨x, hx, rfl⟩ := hp
      obtain ⟨y, hy, rfl⟩ := hq
      obtain rfl := Option.some.inj (hx.symm.trans hy)
      refine ⟨rfl, H _ ?_⟩
      have := List.mem_of_getElem? hx
      simp only [List.mem_toArray, List.mem_map]
      exact ⟨x, this, rfl⟩
    have hmap : (parts.map fun x => (x.1, a.eval x.2)).toList = parts.toList.map fun p => (p.1, a.eval p.2) := by simp
    simp only at h
    split at h
    · rename_i el hu
      obtain ⟨z, hz, h⟩ := X.ev_bopt h
      obtain ⟨s, hs, h⟩ := X.ev_bopt h
      replace h := X.ev_bguard h
      obtain ⟨hg, h⟩ := h
      replace h := X.ev_bguard h
      obtain ⟨hsz, h⟩ := h
      obtain ⟨l, hf, h⟩ := X.ev_bopt h
      obtain rfl := X.ev_ret h
      have hsz' : ¬ (n * s > 2 ^ 24) := by simpa using hsz
      obtain ⟨zero, hzrun, hcells⟩ : ∃ zero : Array Value, ((n * s = 0 ∧ zero = #[]) ∨ (n * s ≠ 0 ∧ ∃ v, (zeroValue el).run C.P w = .ok v w ∧ zero = v.cells)) ∧
          VRs C ρ (Own C hl ρ) w (List.replicate n z.cells).flatten ((Array.range (n * s)).map (fun i => zero[i % zero.size]!)).toList := by
        by_cases hn : n * s = 0
        · refine ⟨#[], .inl ⟨hn, rfl⟩, ?_⟩
          have : (List.replicate n z.cells).flatten = [] := by
            rcases Nat.mul_eq_zero.1 hn with h0 | h0
            · simp [h0]
            · by_cases hn0 : n = 0
              · simp [hn0]
              · simp only [hn0, decide_false, Bool.false_or, Bool.and_eq_true, decide_eq_true_eq] at hg
                have : z.cells = [] := List.eq_nil_of_length_eq_zero (by omega)
                simp [this]
          rw [this, hn]; simp [VRs]
        · have hn0 : n ≠ 0 := fun e => hn (by simp [e])
          simp only [hn0, decide_false, Bool.false_or, Bool.and_eq_true, decide_eq_true_eq, Bool.not_eq_true', if_false] at hg hz
          obtain ⟨v, hv, hav⟩ := run_zero hz w
          have hzv := (zero_one (C := C) (ρ := ρ) (w := w) (O := Own C hl ρ) hav (fun e => by subst e; simp [AV.isBad] at hg)).cells (fun l e => by subst e; simp [AV.notTup] at hg)
          have hlen := hzv.length
          refine ⟨v.cells, .inr ⟨hn, v, hv, rfl⟩, ?_⟩
          have hs' : s = v.cells.size := by rw [← hg.1.1, hlen]; simp
          rw [hs', range_flatten]
          exact hzv.rep n
      obtain ⟨ds, hd1, hd2⟩ := fillA_sound (place' := fun i => some (i * s, s)) (fun i => rfl) hf hcells (by simp) hparts
      refine sound_new (.osl nx 0 n n) hH (hfresh nx (Nat.le_refl _) (by simp)) (.slice (some ⟨w.heap.size, 0, none⟩) n n) ?_ hd2 (fun ρ' O' w' hn => by simp only [VR]; exact ⟨_, hn, rfl⟩)
      rcases hzrun with ⟨hn, hz0⟩ | ⟨hn, v, hv, hz0⟩
      · subst hz0
        simp only [execOp, Instr.buildSlice, Sem.run_bind, run_undl hu, Result.andThen_ok, run_sizeT hs, if_neg hsz', hmap, if_pos hn, Sem.run_pure, hd1]
        simp [newRow]
      · subst hz0
        simp only [execOp, Instr.buildSlice, Sem.run_bind, run_undl hu, Result.andThen_ok, run_sizeT hs, if_neg hsz', hmap, if_neg hn, hv, Sem.run_pure, hd1]
        simp [newRow]
    · exact h.elim
  case load t x =>
    obtain ⟨v, hv, h⟩ := X.ev_bopt h
    obtain rfl := X.ev_ret h
    obtain ⟨y, h1, h2⟩ := loadA_sound hc hH hv (H x (by simp))
    exact sound_val hH (by simp [execOp, h1]) h2
  case store t x y =>
    have Hx := H x (by simp)
    have Hy := H y (by simp)
    simp only at h
    split at h
    · rename_i b p hb
      rw [hb] at Hx
      simp only [VR] at Hx
      obtain ⟨k, hk, hxe⟩ := Hx
      split at h
      · rename_i l el hbl
        obtain ⟨s, hs, h⟩ := X.ev_bopt h
        replace h := X.ev_bguard h
        obtain ⟨hg, h⟩ := h
        obtain rfl := X.ev_ret h
        simp only [Bool.and_eq_true, decide_eq_true_eq] at hg
        obtain ⟨⟨⟨hnt, hlen⟩, hone⟩, hle⟩ := hg
        obtain ⟨k', cs, h1, h2, h3⟩ := hH.cells b l el hbl
        obtain rfl := Option.some.inj (h1.symm.trans hk)
        have hcv := Hy.cells (fun l e => by rw [e] at hnt; simp [AV.notTup] at hnt)
        have hl1 := hcv.length
        have hl2 := h3.length
        simp only [Array.length_toList] at hl1 hl2
        obtain ⟨w', cs', r1, r2, r3, r4, r5, r6, r7, r8⟩ := run_storeCells (P := C.P) (a.eval y).cells.toList p 0 cs w h2 (by simp; omega) (VRs.ones hcv hone)
        have hv' : VRs C ρ (Own C hl ρ) w (splice l p (ev tl y).cells) cs'.toList := by
          rw [r3]
          unfold splice
          simp only [Nat.add_zero, ← hcv.length]
          exact ((h3.take p).append hcv).append (h3.drop _)
        obtain ⟨hH', hA⟩ := hH.write hbl h1 hv' w' r4 r2 r5 r6 r7 r8
        intro K Q hK
        unfold Oper.wp
        have hrun : (execOp a.eval ⟨dst, .store t x y, type, pos, after, guard⟩).run C.P w = .ok .skip w' := by
          have hsz : (a.eval y).cells.size = s := by omega
          simp [execOp, Instr.storeAt, hxe, Instr.sureAddr, storeVar, run_sizeT hs, hsz, r1]
        rw [hrun, Oper.upon_skip]
        exact hK undef w' ρ hH' hA (by simp only [VR]; exact ⟨#[], rfl, by simp [VRs]⟩)
      · exact h.elim
    · exact h.elim
  case nilCheck x =>
    have Hx := H x (by simp)
    simp only at h
    split at h
    · rename_i b p hb
      obtain rfl := X.ev_ret h
      rw [hb] at Hx
      have Hx' := Hx
      simp only [VR] at Hx
      obtain ⟨k, hk, hxe⟩ := Hx
      exact sound_val hH (u := a.eval x) (by simp [execOp, hxe]) Hx'
    · rename_i b p hb
      obtain rfl := X.ev_ret h
      rw [hb] at Hx
      have Hx' := Hx
      simp only [VR] at Hx
      exact sound_val hH (u := a.eval x) (by simp [execOp, Hx]) Hx'
    · rename_i r d i p hb
      obtain rfl := X.ev_ret h
      rw [hb] at Hx
      have Hx' := Hx
      simp only [VR] at Hx
      obtain ⟨k, s, hxe, _⟩ := Hx
      exact sound_val hH (u := a.eval x) (by simp [execOp, hxe]) Hx'
    · rename_i f fa fc hb
      obtain rfl := X.ev_ret h
      rw [hb] at Hx
      have Hx' := Hx
      simp only [VR] at Hx
      obtain ⟨y, z, hxe, _⟩ := Hx
      exact sound_val hH (u := a.eval x) (by simp [execOp, hxe]) Hx'
    · exact h.elim
  case binOp bo t x y yt =>
    obtain ⟨v, h1, h⟩ := X.ev_bind h
    obtain rfl := X.ev_ret h
    obtain ⟨u, hu1, hu2⟩ := binA_sound (C := C) (Pre := Pre) (x := x) (y := y) h1 (H x (by simp)) (H y (by simp)) w
    refine sound_val hH ?_ hu2
    simp only [execOp, Sem.run_bind] at hu1 ⊢
    simp only [hu1, Result.andThen_ok, Sem.run_pure]
  case unOp uo t x =>
    obtain ⟨v, hv, h⟩ := X.ev_bopt h
    obtain rfl := X.ev_ret h
    obtain ⟨y, h1, h2⟩ := unA_sound hv (H x (by simp)) w
    exact sound_val hH (by simp [execOp, h1]) h2
  case convert s d x =>
    obtain ⟨v, hv, h⟩ := X.ev_bopt h
    obtain rfl := X.ev_ret h
    obtain ⟨y, h1, h2⟩ := convA_sound (C := C) hv (H x (by simp)) w
    exact sound_val hH (by simp [execOp, h1]) h2
  case makeFunc fn fi ca =>
    obtain rfl := X.ev_ret h
    refine sound_val hH (u := .func fn (fi.map a.eval) (ca.map a.eval)) (by simp [execOp, Instr.makeFunc]) ?_
    simp only [VR]
    refine ⟨_, _, rfl, ?_, ?_⟩
    · rw [Array.toList_map]; exact VRs.map fun x hx => H x (by simp at hx ⊢; exact .inl hx)
    · rw [Array.toList_map]; exact VRs.map fun x hx => H x (by simp at hx ⊢; exact .inr hx)
  case makeSlice t n c =>
    have Hn := H n (by simp)
    have Hc := H c (by simp)
    simp only at h
    split at h
    · rename_i el hu
      obtain ⟨n', hn', h⟩ := X.ev_bopt h
      obtain ⟨c', hc', h⟩ := X.ev_bopt h
      obtain ⟨i, hi, h⟩ := X.ev_bopt h
      obtain ⟨z, hz, h⟩ := X.ev_bopt h
      replace h := X.ev_bguard h
      obtain ⟨hg, h⟩ := h
      obtain rfl := X.ev_ret h
      simp only [Bool.and_eq_true, decide_eq_true_eq, Bool.not_eq_true'] at hg
      obtain ⟨⟨⟨⟨⟨g1, g2⟩, g3⟩, g4⟩, g5⟩, g6⟩ := hg
      obtain ⟨k1, hk1⟩ := natLit_sound hn' Hn
      obtain ⟨k2, hk2⟩ := natLit_sound hc' Hc
      have hzo : ((C.P.info? el).bind (·.zero)).map avOf = some z := by rw [hi]; exact hz
      have hs : sizeT C.P el = some i.size := by simp [sizeT, PV.info_of, hi]
      have w1 : IntKind.i64.wrap (n' : Int) = (n' : Int) := by
        unfold IntKind.wrap IntKind.bits IntKind.signed
        simp only []
        have : (n' : Int) % 2 ^ 64 = n' := Int.emod_eq_of_lt (by omega) (by omega)
        rw [this]
        simp; omega
      have w2 : IntKind.i64.wrap (c' : Int) = (c' : Int) := by
        unfold IntKind.wrap IntKind.bits IntKind.signed
        simp only []
        have : (c' : Int) % 2 ^ 64 = c' := Int.emod_eq_of_lt (by omega) (by omega)
        rw [this]
        simp; omega
      have g2' : ¬ ((i.bytes : Int) * (c' : Int) > 2 ^ 48) := by
        have h1 : ((c' * i.bytes : Nat) : Int) ≤ ((281474976710656 : Nat) : Int) := Int.ofNat_le.2 g2
        rw [Int.natCast_mul, Int.mul_comm] at h1
        omega
      have htest : ((decide ((c' : Int) < 0) || decide ((i.bytes : Int) * (c' : Int) > 2 ^ 48)) || decide ((n' : Int) < 0) || decide ((n' : Int) > (c' : Int))) = false := by
        simp only [Bool.or_eq_false_iff, decide_eq_false_iff_not]
        exact ⟨⟨⟨by omega, g2'⟩, by omega⟩, by omega⟩
      obtain ⟨v, hv, hav⟩ := run_zero hzo w
      have hzv := (zero_one (C := C) (ρ := ρ) (w := w) (O := Own C hl ρ) hav (fun e => by subst e; simp [AV.isBad] at g5)).cells (fun l e => by subst e; simp [AV.notTup] at g6)
      have hlen := hzv.length
      simp only [Array.length_toList] at hlen
      by_cases hn0 : c' * i.size = 0
      · have hnil : (List.replicate c' z.cells).flatten = [] := by
          rcases Nat.mul_eq_zero.1 hn0 with h0 | h0
          · simp [h0]
          · have : z.cells = [] := List.eq_nil_of_length_eq_zero (by omega)
            simp [this]
        refine sound_new (.osl nx 0 n' c') hH (hfresh nx (Nat.le_refl _) (by simp)) (.slice (some ⟨w.heap.size, 0, none⟩) n' c') (cs := #[]) ?_ (by rw [hnil]; simp [VRs]) (fun ρ' O' w' hn => by simp only [VR]; exact ⟨_, hn, rfl⟩)
        simp only [execOp, Instr.makeSlice, Sem.run_bind, run_undl hu, Result.andThen_ok, asInt, asIntOf, hk1, hk2, Sem.run_pure, typeInfo, run_program, hi, w1, w2, htest, Bool.false_eq_true, if_false, run_askRoom, Int.toNat_natCast, run_sizeT hs, hn0, if_true, newRow, run_newObj]
        simp [Array.range]
      · refine sound_new (.osl nx 0 n' c') hH (hfresh nx (Nat.le_refl _) (by simp)) (.slice (some ⟨w.heap.size, 0, none⟩) n' c') (cs := (Array.range (c' * v.cells.size)).map (fun j => v.cells[j % v.cells.size]!)) ?_ (by rw [range_flatten]; exact hzv.rep c') (fun ρ' O' w' hn => by simp only [VR]; exact ⟨_, hn, rfl⟩)
        have hsz : i.size = v.cells.size := by omega
        simp only [execOp, Instr.makeSlice, Sem.run_bind, run_undl hu, Result.andThen_ok, asInt, asIntOf, hk1, hk2, Sem.run_pure, typeInfo, run_program, hi, w1, w2, htest, Bool.false_eq_true, if_false, run_askRoom, Int.toNat_natCast, run_sizeT hs, newRow, hsz]
        rw [if_neg (by rw [← hsz]; exact hn0)]
        simp only [Sem.run_bind, hv, Result.andThen_ok, Sem.run_pure, run_newObj]
    · exact h.elim
  case fieldAddr st x f =>
    obtain ⟨v, hv, h⟩ := X.ev_bopt h
    obtain rfl := X.ev_ret h
    cases hu : C.P.underlying st with
    | none => simp [hu] at hv
    | some d =>
      cases d <;> simp only [hu, Option.bind_eq_bind, Option.bind_some, reduceCtorEq] at hv
      rename_i fs
      cases hf : fs[f]? with
      | none => simp [hf] at hv
      | some fd =>
        simp only [hf, Option.bind_some] at hv
        cases hs : sizeT C.P fd.type with
        | none => simp [hs] at hv
        | some n =>
          simp only [hs, Option.bind_some] at hv
          split at hv
          · cases hv
          · rename_i hn
            obtain ⟨p, hp, hvr⟩ := addrOff_sound hv (H x (by simp))
            refine sound_val hH ?_ hvr
            simp [execOp, Instr.fieldAt, run_undl hu, hf, hp, Instr.sureAddr, fieldPlace, run_sizeT hs, hn]
  case field st x f =>
    obtain ⟨v, hv, h⟩ := X.ev_bopt h
    obtain rfl := X.ev_ret h
    cases hu : C.P.underlying st with
    | none => simp [hu] at hv
    | some d =>
      cases d <;> simp only [hu, Option.bind_eq_bind, Option.bind_some, reduceCtorEq] at hv
      rename_i fs
      cases hf : fs[f]? with
      | none => simp [hf] at hv
      | some fd =>
        simp only [hf, Option.bind_some] at hv
        have Hx := H x (by simp)
        cases hx : ev tl x <;> simp only [hx, reduceCtorEq] at hv
        rename_i l
        rw [hx] at Hx
        simp only [VR] at Hx
        obtain ⟨X1, hX, hXv⟩ := Hx
        obtain ⟨u, h1, h2⟩ := partA_sound hv hXv w
        refine sound_val hH ?_ h2
        simp [execOp, Instr.field, run_undl hu, hf, hX, asAgg, h1]
  case indexAddr t x i =>
    have Hx := H x (by simp)
    have Hi := H i (by simp)
    simp only at h
    split at h
    · rename_i n el hu
      split at h
      · rename_i j hj
        replace h := X.ev_bguard h
        obtain ⟨hg, h⟩ := h
        obtain ⟨v, hv, h⟩ := X.ev_bopt h
        obtain rfl := X.ev_ret h
        obtain ⟨k, hik⟩ := natLit_sound hj Hi
        have hlt : j < n := by simpa using hg
        cases hs : sizeT C.P el with
        | none => simp [hs] at hv
        | some s =>
          simp only [hs, Option.bind_eq_bind, Option.bind_some] at hv
          obtain ⟨p, hp, hvr⟩ := addrOff_sound hv Hx
          refine sound_val hH ?_ hvr
          have h1 : (0 : Int) ≤ (j : Int) ∧ (j : Int) < (n : Int) := by omega
          simp [execOp, Instr.indexAt, asIntOf, hik, run_undl hu, hp, Instr.sureAddr, run_sizeT hs, hlt]
      · split at h
        · rename_i g p ik j hx hi
          obtain ⟨s, hs, h⟩ := X.ev_bopt h
          obtain ⟨rr, hrr, h⟩ := X.ev_bopt h
          obtain ⟨hge, h⟩ := X.ev_bwant h
          obtain ⟨hlt, h⟩ := X.ev_bwant h
          obtain rfl := X.ev_ret h
          rw [hx] at Hx
          rw [hi] at Hi
          have hii := VR.int_inv Hi
          simp only [VR] at Hx
          rw [eval_cm] at hge hlt
          have hge' : 0 ≤ (j.eval C.F C.η).toInt := by simpa [Cm.eval, litI, T.eval, D.toInt] using hge
          have hlt' : (j.eval C.F C.η).toInt < (n : Int) := by simpa [Cm.eval, litI, T.eval, D.toInt] using hlt
          obtain ⟨l, hG, hrl, hrows⟩ := globRows_sound hrr
          obtain ⟨hgB, e, fr, hw⟩ := hc.glob g l hG
          have hgw : w.heap[g]? = some (.cells l.toArray e fr) := by rw [hH.below.block g hgB]; exact hw
          have hn : (j.eval C.F C.η).toInt.toNat < n := by omega
          refine sound_val hH (u := .pointer (some ⟨g, p + (j.eval C.F C.η).toInt.toNat * s, none⟩)) ?_ ?_
          · simp only [execOp, Instr.indexAt, asIntOf, hii, Hx, Sem.run_bind, Sem.run_pure, Result.andThen_ok, run_undl hu]
            simp [hge', hlt', run_sizeT hs, Addr.add_none, Instr.sureAddr]
          · simp only [VR]
            refine ⟨g, p + (j.eval C.F C.η).toInt.toNat * s, rfl, ?_, by have := hH.room; omega, ?_⟩
            · rintro (ho | ⟨b, x, _, _, hb⟩)
              · exact hc.away g l hG ho
              · have := (hH.own b g hb).1; omega
            · exact hrows w _ e fr hgw _ hn
        · exact h.elim
    · rename_i el hu
      obtain ⟨s, hs, h⟩ := X.ev_bopt h
      split at h
      · rename_i b p n cap hx
        rw [hx] at Hx
        simp only [VR] at Hx
        obtain ⟨kb, hkb, hxe⟩ := Hx
        split at h
        · rename_i j hj
          replace h := X.ev_bguard h
          obtain ⟨hg, h⟩ := h
          obtain rfl := X.ev_ret h
          obtain ⟨k, hik⟩ := natLit_sound hj Hi
          have hlt : j < n := by simpa using hg
          refine sound_val hH (u := .pointer (some ⟨kb, p + j * s, none⟩)) ?_ (by simp only [VR]; exact ⟨kb, hkb, rfl⟩)
          simp [execOp, Instr.indexAt, asIntOf, hik, run_undl hu, hxe, run_sizeT hs, hlt, Addr.add_none]
        · split at h
          · rename_i ik j hi
            replace h := X.ev_bguard h
            obtain ⟨hg, h⟩ := h
            obtain ⟨hge, h⟩ := X.ev_bwant h
            obtain ⟨hlt, h⟩ := X.ev_bwant h
            obtain ⟨q, hq, h⟩ := X.ev_bind h
            obtain rfl := X.ev_ret h
            rw [hi] at Hi
            have hii := VR.int_inv Hi
            rw [eval_cm] at hge hlt
            have hge' : 0 ≤ (j.eval C.F C.η).toInt := by simpa [Cm.eval, litI, T.eval, D.toInt] using hge
            have hlt' : (j.eval C.F C.η).toInt < (n : Int) := by simpa [Cm.eval, litI, T.eval, D.toInt] using hlt
            obtain ⟨hjq, hqn⟩ := X.ev_cases hq hge' hlt'
            rw [hjq] at hii
            refine sound_val hH (u := .pointer (some ⟨kb, p + q * s, none⟩)) ?_ (by simp only [VR]; exact ⟨kb, hkb, rfl⟩)
            simp [execOp, Instr.indexAt, asIntOf, hii, run_undl hu, hxe, run_sizeT hs, hqn, Addr.add_none]
          · exact h.elim
      · rename_i row d hx
        split at h
        · rename_i ik j hi
          replace h := X.ev_bguard h
          obtain ⟨hrow, h⟩ := h
          obtain ⟨hge, h⟩ := X.ev_bwant h
          obtain ⟨hlt, h⟩ := X.ev_bwant h
          obtain rfl := X.ev_ret h
          rw [hx] at Hx
          rw [hi] at Hi
          have hii := VR.int_inv Hi
          have hrow' : row.length = s := by simpa using hrow
          rw [eval_cm] at hge hlt
          have hge' : 0 ≤ (j.eval C.F C.η).toInt := by simpa [Cm.eval, litI, T.eval, D.toInt] using hge
          have hlt' : (j.eval C.F C.η).toInt < ((d.eval C.F C.η).rows.length : Int) := by
            have : ((T.mk .len [d]).eval C.F C.η).toInt = ((d.eval C.F C.η).rows.length : Int) := by rw [T.eval_mk]; rfl
            rw [this] at hlt
            simpa [Cm.eval] using hlt
          simp only [VR, Reads] at Hx
          obtain ⟨p, cap, hxe, hcap, hp⟩ := Hx
          cases p with
          | none =>
            obtain ⟨h0, _⟩ := hp
            rw [h0] at hlt'
            simp at hlt'
            omega
          | some p =>
            obtain ⟨bk, off, spot⟩ := p
            obtain ⟨hsp, hO, hsz, hrows⟩ := hp
            simp only at hsp
            subst hsp
            have hn : (j.eval C.F C.η).toInt.toNat < (d.eval C.F C.η).rows.length := by omega
            refine sound_val hH (u := .pointer (some ⟨bk, off + (j.eval C.F C.η).toInt.toNat * s, none⟩)) ?_ ?_
            · simp only [execOp, Instr.indexAt, asIntOf, hii, hxe, Sem.run_bind, Sem.run_pure, Result.andThen_ok, run_undl hu]
              simp [hge', hlt', run_sizeT hs, Addr.add_none]
            · simp only [VR]
              exact ⟨bk, off + (j.eval C.F C.η).toInt.toNat * s, rfl, hO, hsz, by rw [← hrow']; exact hrows _ hn⟩
        · exact h.elim
      · exact h.elim
    · exact h.elim
  case index t x i =>
    have Hx := H x (by simp)
    have Hi := H i (by simp)
    simp only at h
    split at h
    · rename_i n el l hu hx
      obtain ⟨j, hj, h⟩ := X.ev_bopt h
      replace h := X.ev_bguard h
      obtain ⟨hg, h⟩ := h
      obtain ⟨v, hv, h⟩ := X.ev_bopt h
      obtain rfl := X.ev_ret h
      obtain ⟨k, hik⟩ := natLit_sound hj Hi
      have hlt : j < n := by simpa using hg
      cases hs : sizeT C.P el with
      | none => simp [hs] at hv
      | some s =>
        simp only [hs, Option.bind_eq_bind, Option.bind_some] at hv
        rw [hx] at Hx
        simp only [VR] at Hx
        obtain ⟨X1, hX, hXv⟩ := Hx
        obtain ⟨u, h1, h2⟩ := partA_sound hv hXv w
        refine sound_val hH ?_ h2
        simp [execOp, Instr.index, asIntOf, hik, run_undl hu, hX, run_sizeT hs, hlt, h1]
    · rename_i s hu hx
      split at h
      · rename_i ik j hi
        obtain ⟨hge, h⟩ := X.ev_bwant h
        obtain ⟨hlt, h⟩ := X.ev_bwant h
        obtain rfl := X.ev_ret h
        rw [hx] at Hx
        rw [hi] at Hi
        have hii := VR.int_inv Hi
        simp only [VR] at Hx
        rw [eval_cm] at hge hlt
        have hge' : 0 ≤ (j.eval C.F C.η).toInt := by simpa [Cm.eval, litI, T.eval, D.toInt] using hge
        have hlt' : (j.eval C.F C.η).toInt < ((s.eval C.F C.η).toStr.data.toList.length : Int) := by
          have : ((T.mk .slen [s]).eval C.F C.η).toInt = ((s.eval C.F C.η).toStr.data.toList.length : Int) := by rw [T.eval_mk]; rfl
          rw [this] at hlt
          simpa [Cm.eval] using hlt
        have hn : (j.eval C.F C.η).toInt.toNat < (s.eval C.F C.η).toStr.data.toList.length := by omega
        have hn2 : (j.eval C.F C.η).toInt.toNat < (s.eval C.F C.η).toStr.size := by simpa using hn
        have hget : (s.eval C.F C.η).toStr[(j.eval C.F C.η).toInt.toNat]? = some ((s.eval C.F C.η).toStr.data.toList.getD (j.eval C.F C.η).toInt.toNat 0) := by
          rw [getElem?_pos (s.eval C.F C.η).toStr _ hn2, List.getD_eq_getElem?_getD, List.getElem?_eq_getElem hn]
          rfl
        refine sound_val hH (u := .int .u8 (((s.eval C.F C.η).toStr.data.toList.getD (j.eval C.F C.η).toInt.toNat 0).toNat : Int)) ?_ ?_
        · simp only [execOp, Instr.index, asIntOf, hii, Hx, Sem.run_bind, Sem.run_pure, Result.andThen_ok, run_undl hu, hge', if_true, hget]
        · simp only [VR, T.eval_mk, T.evals, Prim.eval, D.toInt]
      · exact h.elim
    · exact h.elim
  case extract x i =>
    have Hx := H x (by simp)
    obtain ⟨v, hv, h⟩ := X.ev_bopt h
    obtain rfl := X.ev_ret h
    split at hv
    · rename_i l hx
      rw [hx] at Hx
      simp only [VR] at Hx
      obtain ⟨X1, hX, hXv⟩ := Hx
      obtain ⟨u, h1, h2⟩ := hXv.get hv
      have h1' : X1[i]? = some u := by simpa using h1
      exact sound_val hH (by simp [execOp, Instr.extract, hX, h1']) h2
    · cases hv
  case slice t x lo hi mx =>
    have Hx := H x (by simp)
    cases mx with
    | some m => exact h.elim
    | none =>
      simp only at h
      split at h
      · rename_i el b p n cap hu hx
        obtain ⟨s, hs, h⟩ := X.ev_bopt h
        obtain ⟨l, hl', h⟩ := X.ev_bopt h
        obtain ⟨m, hm, h⟩ := X.ev_bopt h
        replace h := X.ev_bguard h
        obtain ⟨hg, h⟩ := h
        obtain rfl := X.ev_ret h
        simp only [Bool.and_eq_true, decide_eq_true_eq] at hg
        obtain ⟨⟨h1, h2⟩, h3⟩ := hg
        rw [hx] at Hx
        simp only [VR] at Hx
        obtain ⟨kb, hkb, hxe⟩ := Hx
        refine sound_val hH (u := .slice (some ⟨kb, p + l * s, none⟩) (m - l) (cap - l)) ?_ (by simp only [VR]; exact ⟨kb, hkb, rfl⟩)
        have hne : ¬ (cap = l) := by omega
        have e1 : (Instr.sliceBounds true n cap (lo.map a.eval) (hi.map a.eval) none).run C.P w = .ok (l, m, cap) w := by
          cases hi with
          | none =>
            simp only [Option.some.injEq] at hm; subst hm
            cases lo with
            | none => simp only [Option.some.injEq] at hl'; subst hl'; simp [Instr.sliceBounds]
            | some y =>
              obtain ⟨k, hk⟩ := natLit_sound hl' (H y (by simp))
              simp [Instr.sliceBounds, Instr.sliceBound, asIntOf, hk, h1]
          | some z =>
            obtain ⟨k', hk'⟩ := natLit_sound hm (H z (by simp))
            cases lo with
            | none => simp only [Option.some.injEq] at hl'; subst hl'; simp [Instr.sliceBounds, Instr.sliceBound, asIntOf, hk', h2]
            | some y =>
              obtain ⟨k, hk⟩ := natLit_sound hl' (H y (by simp))
              simp [Instr.sliceBounds, Instr.sliceBound, asIntOf, hk, hk', h1, h2]
        simp [execOp, Instr.sliceAt, run_undl hu, Instr.slice, hxe, e1, run_sizeT hs, hne, Addr.add_none]
      · exact h.elim
  case call c =>
    simp only at h
    split at h
    · rename_i b hcb
      obtain ⟨v, hv, h⟩ := X.ev_bopt h
      obtain rfl := X.ev_ret h
      have hargs : VRs C ρ (Own C hl ρ) w (c.args.toList.map (ev tl)) (c.args.toList.map a.eval) := VRs.map fun x hx => H x (by simp [Call.operands, hcb]; simpa using hx)
      obtain ⟨u, h1, h2⟩ := builtinA_sound (type := type) (cs := c.args.map fun | .const _ => true | _ => false) hv hargs w
      refine sound_val hH ?_ h2
      have e1 : (c.args.toList.map a.eval).toArray = c.args.map a.eval := Array.ext' (by simp)
      rw [e1] at h1
      simp only [execOp, resolve, hcb, Sem.run_bind, Sem.run_pure, Result.andThen_ok, invoke]
      exact h1
    · rename_i f hcb
      split at h
      · rename_i fid first captured hf
        have Hf := H f (by simp [Call.operands, hcb])
        rw [hf] at Hf
        simp only [VR] at Hf
        obtain ⟨x1, x2, hfe, hv1, hv2⟩ := Hf
        have hargs : VRs C ρ (Own C hl ρ) w (c.args.toList.map (ev tl)) (c.args.toList.map a.eval) := VRs.map fun x hx => H x (by simp [Call.operands, hcb]; exact .inr (by simpa using hx))
        split at h
        · rename_i b hext
          have hall := (hv1.append hargs).append hv2
          unfold extA at h
          split at h
          · rename_i x y z hl3
            replace h := X.ev_bwant h
            obtain ⟨hwant, h⟩ := h
            obtain rfl := X.ev_ret h
            rw [hl3] at hall
            have hus : ∃ us, x1.toList ++ c.args.toList.map a.eval ++ x2.toList = us ∧ VRs C ρ (Own C hl ρ) w [.int .u64 x, .int .u64 y, .int .u64 z] us := ⟨_, rfl, hall⟩
            obtain ⟨us, hus, h3⟩ := hus
            match us, h3 with
            | [u1, u2, u3], h3 =>
              simp only [VRs, VR] at h3
              obtain ⟨rfl, rfl, rfl, _⟩ := h3
              have hle : (z.eval C.F C.η).toInt ≤ 1 := by
                have := hwant
                rw [eval_cm] at this
                simpa [Cm.eval, litI, T.eval, D.toInt] using this
              have hcf := ext_run (P := C.P) (f := fid) hext (x := (x.eval C.F C.η).toInt) (y := (y.eval C.F C.η).toInt) hle w
              refine sound_val hH (u := .tuple #[.int .u64 ((if b then Xt.adds else Xt.subs).eval (x.eval C.F C.η).toInt (y.eval C.F C.η).toInt (z.eval C.F C.η).toInt), .int .u64 ((if b then Xt.addc else Xt.subb).eval (x.eval C.F C.η).toInt (y.eval C.F C.η).toInt (z.eval C.F C.η).toInt)]) ?_ ?_
              · have e1 : x1 ++ c.args.map a.eval ++ x2 = #[.int .u64 (x.eval C.F C.η).toInt, .int .u64 (y.eval C.F C.η).toInt, .int .u64 (z.eval C.F C.η).toInt] := by
                  apply Array.ext'
                  simpa using hus
                simp only [execOp, resolve, hcb, Sem.run_bind, hfe, Deferred.ofValue, Sem.run_pure, Result.andThen_ok, invoke]
                rw [e1]
                exact hcf
              · simp only [VR]
                refine ⟨_, rfl, ?_⟩
                simp only [VRs, VR, T.eval_mk, T.evals, Prim.eval, D.toInt, and_true]
          · exact h.elim
        · rename_i hext
          obtain ⟨⟨fn, hfn, hname, hbody⟩, hcalls⟩ := hcall fid _ eff _ h hfresh ((hv1.append hargs).append hv2)
          intro K Q hK
          unfold Oper.wp
          have hrun : (execOp a.eval ⟨dst, .call c, type, pos, after, guard⟩).run C.P w = .ok (.enter fid (x1.toList ++ c.args.toList.map a.eval ++ x2.toList).toArray) w := by
            simp only [execOp, resolve, hcb, Sem.run_bind, hfe, Deferred.ofValue, Sem.run_pure, Result.andThen_ok, invoke, callFunc, run_program, hfn]
            simp [hname, hbody]
          rw [hrun, Oper.upon_enter]
          refine hcalls.mono ?_
          rintro e w' ⟨u, ρ', rfl, hH', hA, hv⟩
          exact hK u w' ρ' hH' hA hv
      · exact h.elim
    · exact h.elim
end
end Go.Sx
end
