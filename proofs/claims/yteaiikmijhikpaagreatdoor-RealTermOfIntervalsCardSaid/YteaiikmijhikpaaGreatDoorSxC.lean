/- That a function's contract follows from the tree of its abstract run and from the trees of its places, for every program whose run makes these trees. -/
import Derived.Test.YteaiikmijhikpaaGreatDoorSxB
import Derived.Laws.Bits64
import Derived.Laws.BitsLemmas
set_option linter.all false
section
namespace Go.Sx
open Go
open Go.RowKit (Below)

/-- A function's contract: its shape, what it asks, what it answers. -/
structure Spec where
  con : Con
  pre : List D → Prop
  fn : List D → List D

def Spec.Runs (P : Program) (G : Nat → Option (List Value)) (s : Spec) : Prop :=
  ∀ (w : World) (O : Nat → Prop) (ds : List D) (us : List Value), GlobOk G w → (∀ k, O k → k < w.heap.size) → (∀ g l, G g = some l → ¬ O g) → ArgsR w O s.con.ps ds us → s.pre ds →
    Calls P s.con.f us.toArray w fun e w' => ∃ vs, e = .returned (oneTup vs) ∧ Below w.heap.size w w' ∧ ArgsR w' O s.con.rs (s.fn ds) vs
def Spec.Folds (s : Spec) : Prop := ∀ g, s.con.fold = some g → ∀ ds, s.pre ds → s.fn ds = g ds
def Spec.Ok (P : Program) (G : Nat → Option (List Value)) (s : Spec) : Prop := s.Runs P G ∧ s.Folds

def fnOf : List Spec → Fns
  | [], _, _ => []
  | s :: _, 0, ds => s.fn ds
  | _ :: K, i + 1, ds => fnOf K i ds
def preOf : List Spec → Nat → List D → Prop
  | [], _, _ => False
  | s :: _, 0, ds => s.pre ds
  | _ :: K, i + 1, ds => preOf K i ds

/-- A tree without functions in it. -/
inductive Tr (α : Type) where
  | ret (a : α)
  | ask (t : T) (x y : Tr α)
  | need (t : T) (k : Tr α)
  | pre (c : Nat) (l : List T) (k : Tr α)
  | fail (why : String)

def X.toTr {α : Type} : X α → Tr α
  | .ret a => .ret a
  | .ask t k => .ask t (k true).toTr (k false).toTr
  | .need (.need t) k => .need t k.toTr
  | .need (.pre c l) k => .pre c l k.toTr
  | .fail s => .fail s

def Tr.holds {α : Type} (F : Fns) (Pre : Nat → List D → Prop) (ds : List D) (Φ : α → Prop) : Tr α → Prop
  | .ret a => Φ a
  | .ask t x y => ((t.eval F ds).toBool = true → x.holds F Pre ds Φ) ∧ ((t.eval F ds).toBool = false → y.holds F Pre ds Φ)
  | .need t k => (t.eval F ds).toBool = true ∧ k.holds F Pre ds Φ
  | .pre c l k => Pre c (T.evals F ds l) ∧ k.holds F Pre ds Φ
  | .fail _ => False

theorem X.holds_toTr {C : Ctx} {Pre : Nat → List D → Prop} {α : Type} {Φ : α → Prop} : ∀ {x : X α}, x.toTr.holds C.F Pre C.η Φ → x.holds C Pre Φ
  | .ret _, h => h
  | .ask _ _, h => ⟨fun e => X.holds_toTr (h.1 e), fun e => X.holds_toTr (h.2 e)⟩
  | .need (.need _) _, h => ⟨h.1, X.holds_toTr h.2⟩
  | .need (.pre _ _) _, h => ⟨h.1, X.holds_toTr h.2⟩
  | .fail _, h => h

def untup (n : Nat) (v : AV) : List AV :=
  if n = 1 then [v] else match v with
    | .tup l => l
    | v => [v]

/-- What a run comes to: its answers, or a place at which another text goes on. -/
inductive Leaf where
  | done (l : List T)
  | cut (i : Nat) (todo : List Item) (l : List T)

/-- The state at a place: the terms in it stand for variables. -/
structure Tmpl where
  tm : List AV
  ws : Heap
  nx : Nat

def fillT (p : T) (n : Nat) : T × Nat := match p with
  | .lit d => (.lit d, n)
  | _ => (.v n, n + 1)
mutual
def fillV : AV → Nat → AV × Nat
  | .int k t, n => let r := fillT t n; (.int k r.1, r.2)
  | .bool t, n => let r := fillT t n; (.bool r.1, r.2)
  | .str t, n => let r := fillT t n; (.str r.1, r.2)
  | .sl row t, n => let r := fillT t n; (.sl row r.1, r.2)
  | .eptr row d i o, n => let r := fillT d n; let q := fillT i r.2; (.eptr row r.1 q.1 o, q.2)
  | .agg l, n => let r := fillL l n; (.agg r.1, r.2)
  | .tup l, n => let r := fillL l n; (.tup r.1, r.2)
  | .func fn a c, n => let r := fillL a n; let q := fillL c r.2; (.func fn r.1 q.1, q.2)
  | v, n => (v, n)
def fillL : List AV → Nat → List AV × Nat
  | [], n => ([], n)
  | v :: l, n => let r := fillV v n; let q := fillL l r.2; (r.1 :: q.1, q.2)
end
def fillH : Heap → Nat → Heap × Nat
  | [], n => ([], n)
  | (b, .cells l e) :: h, n => let r := fillL l n; let q := fillH h r.2; ((b, .cells r.1 e) :: q.1, q.2)
  | (b, .dead) :: h, n => let q := fillH h n; ((b, .dead) :: q.1, q.2)
def fillS (τ : Tmpl) : St :=
  let r := fillL τ.tm 0
  { tm := Tm.of r.1.length r.1, ws := (fillH τ.ws r.2).1, nx := τ.nx, rd := [] }

def matchT (p t : T) : Option (List T) := match p with
  | .lit d => match t with
    | .lit d' => if d.same d' then some [] else none
    | _ => none
  | _ => some [t]
section
variable (ok : Nat → Bool)
mutual
def matchV : AV → AV → Option (List T)
  | .int k p, .int k' t => if k = k' then matchT p t else none
  | .bool p, .bool t => matchT p t
  | .str p, .str t => matchT p t
  | .sl row p, .sl row' t => if Ty.sames row row' then matchT p t else none
  | .eptr row d i o, .eptr row' d' i' o' => if Ty.sames row row' = true ∧ o = o' then match matchT d d', matchT i i' with
      | some x, some y => some (x ++ y)
      | _, _ => none
    else none
  | .ptr b o, .ptr b' o' => if b = b' ∧ o = o' ∧ ok b = true then some [] else none
  | .gptr b o, .gptr b' o' => if b = b' ∧ o = o' then some [] else none
  | .osl b o n c, .osl b' o' n' c' => if (b = b' ∧ o = o' ∧ ok b = true) ∧ n = n' ∧ c = c' then some [] else none
  | .nilp, .nilp => some []
  | .nsl, .nsl => some []
  | .nilf, .nilf => some []
  | .agg l, .agg l' => matchL l l'
  | .tup l, .tup l' => matchL l l'
  | .func fn a c, .func fn' a' c' => if fn = fn' then match matchL a a', matchL c c' with
      | some x, some y => some (x ++ y)
      | _, _ => none
    else none
  | _, _ => none
def matchL : List AV → List AV → Option (List T)
  | [], [] => some []
  | p :: l, v :: m => match matchV p v, matchL l m with
      | some x, some y => some (x ++ y)
      | _, _ => none
  | _, _ => none
end
def matchTm : List AV → List AV → Option (List T)
  | [], [] => some []
  | .bad :: l, _ :: m => matchTm l m
  | p :: l, v :: m => match matchV ok p v, matchTm l m with
      | some x, some y => some (x ++ y)
      | _, _ => none
  | _, _ => none
def matchH (ws : Heap) : Heap → Option (List T)
  | [] => some []
  | (b, .cells l e) :: h => match ws.lookup b with
    | some (.cells l' e') => if e = e' then match matchL ok l l', matchH ws h with
        | some x, some y => some (x ++ y)
        | _, _ => none
      else none
    | _ => none
  | (_, .dead) :: _ => none
end
def tmatch (τ : Tmpl) (S : St) : Option (List T) :=
  let ok := fun b => (τ.ws.lookup b).isSome
  match matchTm ok τ.tm ((List.range S.tm.length).map S.tl), matchH ok S.ws τ.ws with
  | some x, some y => some (x ++ y)
  | _, _ => none

def firstId : Code → Option Nat
  | .region id _ _ => some id
  | .seq a b => (firstId a).or (firstId b)
  | .block _ b | .scope b | .loop b => firstId b
  | _ => none
/-- At the head of a loop: its first region, and what is left to do from there. -/
def headOf : List Item → Option (Nat × List Item)
  | .code (.loop body) :: k | .inLoop body :: k => (firstId body).map fun id => (id, .code body :: .inLoop body :: k)
  | _ => none
def loopAt (id : Nat) : Code → List Item → Option (List Item)
  | .seq a b, k => (loopAt id a (.code b :: k)).or (loopAt id b k)
  | .block n b, k => loopAt id b (.inBlock n :: k)
  | .scope b, k => loopAt id b (.inScope b :: k)
  | .cond _ t e, k => (loopAt id t k).or (loopAt id e k)
  | .loop b, k => if firstId b = some id then some (.code b :: .inLoop b :: k) else loopAt id b (.inLoop b :: k)
  | _, _ => none
def todoOf (P : PV) (f : FuncId) (id : Nat) : List Item :=
  match P.funcs f with
  | some fn => match fn.body with
    | some b => (loopAt id b []).getD []
    | none => []
  | none => []

structure Cut where
  id : Nat
  τ : Tmpl
def cutAt (cuts : List Cut) (todo : List Item) : Option (Nat × List Item × Tmpl) :=
  match cuts with
  | [] => none
  | _ => match headOf todo with
    | some (id, t) => match cuts.zipIdx.find? (fun (c, _) => c.id = id) with
      | some (c, i) => some (i, t, c.τ)
      | none => none
    | none => none

section
variable (P : PV) (G : Nat → Option (List Value)) (cons : List Con) (cuts : List Cut) (fu : Nat) (c : Con) (n : Nat)
def runC (call : FuncId → List AV → Base → Nat → X Eff) : Nat → List Item → St → X (St ⊕ Leaf)
  | 0, _, _ => .fail "fuel"
  | n + 1, todo, S =>
    match cutAt cuts todo with
    | some (i, t, τ) => (X.opt "cut" (tmatch τ S)).bind fun ts => .ret (.inr (.cut i t ts))
    | none => (stepX P G call (fun _ => none) todo S).bind fun (r, S') =>
      match r with
      | none => .ret (.inl S')
      | some k => runC call n k S'
def endC (fn : Func) : St ⊕ Leaf → X Leaf
  | .inr l => .ret l
  | .inl S => (X.opt "results" (resultsA P G fn S (S.hl fun _ => none))).bind fun v => (X.opt "result" (argsT c.rs (untup c.rs.length v))).bind fun ts => .ret (.done ts)
/-- The run of a function on variables, and the terms that it answers. -/
def fnC : X Leaf :=
  match P.funcs c.f with
  | some fn =>
    match fn.body with
    | some body =>
      (X.guard (fn.name != "runtime.NumGoroutine" && fn.nfree + fn.params.size = (resAV .v c.ps 0).length && (resAV .v c.ps 0).length ≤ fn.ntmps) "call").bind fun _ =>
      (runC P G cuts (callX P G cons fu n) fu [.code body] (enterSt fn (resAV .v c.ps 0) 0)).bind (endC P G c fn)
    | none => .fail "call: no body"
  | none => .fail "call: no function"
/-- The run from a place on. -/
def tlC (τ : Tmpl) (id : Nat) : X Leaf :=
  match P.funcs c.f with
  | some fn =>
    (X.guard (τ.ws.all fun (b, _) => b < τ.nx) "names").bind fun _ =>
    (runC P G cuts (callX P G cons fu n) fu (todoOf P c.f id) (fillS τ)).bind (endC P G c fn)
  | none => .fail "call: no function"
end

def Agree : Ty → D → D → Prop
  | .int _, a, b => a.toInt = b.toInt
  | .bool, a, b => a.toBool = b.toBool
  | .str, a, b => a.toStr = b.toStr
  | .sl _, a, b => a.rows = b.rows
def AgreeL : List Ty → List D → List D → Prop
  | [], _, _ => True
  | t :: ts, a, b => Agree t (a.headD default) (b.headD default) ∧ AgreeL ts a.tail b.tail
def AgreeS : List Sh → List D → List D → Prop
  | [], _, _ => True
  | .at t :: ps, a, b => Agree t (a.headD default) (b.headD default) ∧ AgreeS ps a.tail b.tail
  | .agg l :: ps, a, b => AgreeL l a b ∧ AgreeS ps (a.drop l.length) (b.drop l.length)

section
variable {w : World} {O O' : Nat → Prop}
theorem Reads.agree {t : Ty} {a b : D} {u : Value} (h : Reads w O t a u) (hab : Agree t a b) : Reads w O t b u := by
  cases t <;> simp only [Agree] at hab <;> simp only [Reads] at h ⊢ <;> rw [← hab] <;> exact h
theorem ReadsL.agree : ∀ {ts : List Ty} {a b : List D} {us : List Value}, ReadsL w O ts a us → AgreeL ts a b → ReadsL w O ts b us
  | [], _, _, _, h, _ => h
  | _ :: _, _, _, _, ⟨v, vs, h1, h2, h3⟩, hab => ⟨v, vs, h1, h2.agree hab.1, ReadsL.agree h3 hab.2⟩
theorem ArgsR.agree : ∀ {ps : List Sh} {a b : List D} {us : List Value}, ArgsR w O ps a us → AgreeS ps a b → ArgsR w O ps b us
  | [], _, _, _, h, _ => h
  | .at _ :: _, _, _, _, ⟨v, vs, h1, h2, h3⟩, hab => ⟨v, vs, h1, h2.agree hab.1, ArgsR.agree h3 hab.2⟩
  | .agg _ :: _, _, _, _, ⟨v, vs, h1, h2, h3⟩, hab => ⟨v, vs, h1, h2.agree hab.1, ArgsR.agree h3 hab.2⟩
theorem ReadsL.weaken (h : ∀ k, O k → O' k) : ∀ {ts : List Ty} {a : List D} {us : List Value}, ReadsL w O' ts a us → ReadsL w O ts a us
  | [], _, _, h => h
  | _ :: _, _, _, ⟨v, vs, h1, h2, h3⟩ => ⟨v, vs, h1, h2.mono (Nat.le_refl _) (fun k _ hn => ⟨rfl, fun ho => hn (h k ho)⟩), ReadsL.weaken h h3⟩
theorem ArgsR.weaken (h : ∀ k, O k → O' k) : ∀ {ps : List Sh} {a : List D} {us : List Value}, ArgsR w O' ps a us → ArgsR w O ps a us
  | [], _, _, h => h
  | .at _ :: _, _, _, ⟨v, vs, h1, h2, h3⟩ => ⟨v, vs, h1, h2.mono (Nat.le_refl _) (fun k _ hn => ⟨rfl, fun ho => hn (h k ho)⟩), ArgsR.weaken h h3⟩
  | .agg _ :: _, _, _, ⟨v, vs, h1, h2, h3⟩ => ⟨v, vs, h1, h2.weaken h, ArgsR.weaken h h3⟩
end

theorem consOk_of {P : Program} {G : Nat → Option (List Value)} : ∀ {K : List Spec}, (∀ s ∈ K, s.Ok P G) → ∀ (i : Nat) (c : Con), (K.map (·.con))[i]? = some c → c.Ok P (fnOf K) G (preOf K) i
  | [], _, i, c, h => by simp at h
  | s :: K, hK, 0, c, h => by
    simp only [List.map_cons, List.getElem?_cons_zero, Option.some.injEq] at h
    subst h
    exact hK s List.mem_cons_self
  | s :: K, hK, i + 1, c, h => by
    simp only [List.map_cons, List.getElem?_cons_succ] at h
    exact consOk_of (fun s hs => hK s (List.mem_cons_of_mem _ hs)) i c h

theorem untup_vrs {w : World} {O : Nat → Prop} {C : Ctx} {ρ : Nat → Option Nat} {n : Nat} {v : AV} {u : Value} {l : List T} {rs : List Sh} (hn : rs.length = n) (h : argsT rs (untup n v) = some l) (hv : VR C ρ O w v u) :
    ∃ vs, u = oneTup vs ∧ ArgsR w O rs (T.evals C.F C.η l) vs := by
  unfold untup at h
  split at h
  · exact ⟨[u], rfl, argsT_reads h (by simp only [VRs]; exact ⟨hv, trivial⟩)⟩
  · rename_i h1
    split at h
    · rename_i m
      simp only [VR] at hv
      obtain ⟨x, rfl, hx⟩ := hv
      have hr := argsT_reads h hx
      refine ⟨x.toList, ?_, hr⟩
      have hl : rs.length = x.toList.length := by
        clear h hx hn h1
        generalize T.evals C.F C.η l = ds at hr
        generalize x.toList = us at hr
        induction rs generalizing ds us with
        | nil => simp only [ArgsR] at hr; simp [hr]
        | cons s rs ih =>
          cases s <;> (obtain ⟨v, vs, rfl, _, h3⟩ := hr; simp [ih _ _ h3])
      match hx : x.toList with
      | [] => simp only [oneTup]; rw [← hx]
      | [y] => rw [hx] at hl; simp at hl; omega
      | _ :: _ :: _ => simp only [oneTup]; rw [← hx]
    · rename_i hnt
      have hr := argsT_reads h (us := [u]) (by simp only [VRs]; exact ⟨hv, trivial⟩)
      exact ⟨[u], rfl, hr⟩

section
variable {C : Ctx} {es : List D} {ρ ρ' : Nat → Option Nat} {O O' : Nat → Prop} {w : World} {ok : Nat → Bool}

def Ctx.env (C : Ctx) (es : List D) : Ctx := { C with η := es }

theorem matchT_fill {p t : T} {ts : List T} {n : Nat} (h : matchT p t = some ts) (he : ∀ k, k < ts.length → es.getD (n + k) default = ((ts.map (T.eval C.F C.η)).getD k default)) :
    ((fillT p n).1.eval C.F es) = t.eval C.F C.η ∧ (fillT p n).2 = n + ts.length := by
  cases p with
  | lit d =>
    simp only [matchT] at h
    split at h
    · split at h
      · rename_i d' hs
        simp only [Option.some.injEq] at h
        subst h
        simp only [fillT, T.eval, D.same_eq hs, List.length_nil, Nat.add_zero, and_self]
      · cases h
    · cases h
  | v i =>
    simp only [matchT, Option.some.injEq] at h
    subst h
    simp only [fillT, T.eval, List.length_cons, List.length_nil, Nat.zero_add, and_true]
    have := he 0 (by simp)
    simpa using this
  | app q l =>
    simp only [matchT, Option.some.injEq] at h
    subst h
    simp only [fillT, T.eval, List.length_cons, List.length_nil, Nat.zero_add, and_true]
    have := he 0 (by simp)
    simpa using this

/-- The terms at a place, as its variables. -/
def EnvAt (C : Ctx) (es : List D) (n : Nat) (ts : List T) : Prop := ∀ k, k < ts.length → es.getD (n + k) default = ((ts.map (T.eval C.F C.η)).getD k default)
theorem EnvAt.left {n : Nat} {a b : List T} (h : EnvAt C es n (a ++ b)) : EnvAt C es n a := fun k hk => by
  rw [h k (by simp; omega)]
  simp [List.getD_eq_getElem?_getD, List.getElem?_append, hk]
theorem EnvAt.right {n : Nat} {a b : List T} (h : EnvAt C es n (a ++ b)) : EnvAt C es (n + a.length) b := fun k hk => by
  rw [Nat.add_assoc, h (a.length + k) (by simp; omega)]
  have e : ¬ a.length + k < a.length := by omega
  simp [List.getD_eq_getElem?_getD, List.getElem?_append, e]

mutual
theorem matchV_fill (hρ : ∀ b, ok b = true → ∀ k, ρ b = some k → ρ' b = some k) (hO : ∀ k, O' k → O k) : ∀ {p v : AV} {ts : List T} {n : Nat} {u : Value}, matchV ok p v = some ts → EnvAt C es n ts → VR C ρ O w v u →
    VR (C.env es) ρ' O' w (fillV p n).1 u ∧ (fillV p n).2 = n + ts.length
  | .int k p, v, ts, n, u, h, he, hv => by
    cases v <;> simp only [matchV, reduceCtorEq] at h
    split at h
    · rename_i k' t hk
      obtain ⟨h1, h2⟩ := matchT_fill h he
      simp only [VR, fillV, Ctx.env] at hv ⊢
      exact ⟨by rw [h1, hk]; exact hv, h2⟩
    · cases h
  | .bool p, v, ts, n, u, h, he, hv => by
    cases v <;> simp only [matchV, reduceCtorEq] at h
    obtain ⟨h1, h2⟩ := matchT_fill h he
    simp only [VR, fillV, Ctx.env] at hv ⊢
    exact ⟨by rw [h1]; exact hv, h2⟩
  | .str p, v, ts, n, u, h, he, hv => by
    cases v <;> simp only [matchV, reduceCtorEq] at h
    obtain ⟨h1, h2⟩ := matchT_fill h he
    simp only [VR, fillV, Ctx.env] at hv ⊢
    exact ⟨by rw [h1]; exact hv, h2⟩
  | .sl row p, v, ts, n, u, h, he, hv => by
    cases v <;> simp only [matchV, reduceCtorEq] at h
    split at h
    · rename_i row' t hk
      obtain ⟨h1, h2⟩ := matchT_fill h he
      simp only [VR, fillV, Ctx.env] at hv ⊢
      exact ⟨by rw [h1, Ty.sames_eq hk]; exact hv.mono (Nat.le_refl _) (fun k _ hn => ⟨rfl, fun ho => hn (hO k ho)⟩), h2⟩
    · cases h
  | .eptr row d i o, v, ts, n, u, h, he, hv => by
    cases v <;> simp only [matchV, reduceCtorEq] at h
    split at h
    · rename_i row' d' i' o' hk
      split at h
      · rename_i x y hx hy
        simp only [Option.some.injEq] at h
        subst h
        obtain ⟨h1, h2⟩ := matchT_fill hx he.left
        have hr := he.right
        rw [← h2] at hr
        obtain ⟨h3, h4⟩ := matchT_fill hy hr
        simp only [VR, fillV, Ctx.env] at hv ⊢
        refine ⟨?_, by rw [h4, h2]; simp [Nat.add_assoc]⟩
        rw [h1, h3, Ty.sames_eq hk.1, hk.2]
        obtain ⟨b, s, g1, g2, g3, g4⟩ := hv
        exact ⟨b, s, g1, fun ho => g2 (hO b ho), g3, g4.mono (Nat.le_refl _) (fun k _ hn => ⟨rfl, fun ho => hn (hO k ho)⟩) g2 g3⟩
      · cases h
    · cases h
  | .ptr b o, v, ts, n, u, h, he, hv => by
    cases v <;> simp only [matchV, reduceCtorEq] at h
    split at h
    · rename_i hk
      simp only [Option.some.injEq] at h
      subst h
      obtain ⟨rfl, rfl, hok⟩ := hk
      simp only [VR, fillV] at hv ⊢
      obtain ⟨k, g1, g2⟩ := hv
      exact ⟨⟨k, hρ _ hok k g1, g2⟩, by simp⟩
    · cases h
  | .gptr b o, v, ts, n, u, h, he, hv => by
    cases v <;> simp only [matchV, reduceCtorEq] at h
    split at h
    · rename_i hk
      simp only [Option.some.injEq] at h
      subst h
      obtain ⟨rfl, rfl⟩ := hk
      simp only [VR, fillV] at hv ⊢
      exact ⟨hv, by simp⟩
    · cases h
  | .osl b o m c, v, ts, n, u, h, he, hv => by
    cases v <;> simp only [matchV, reduceCtorEq] at h
    split at h
    · rename_i hk
      simp only [Option.some.injEq] at h
      subst h
      obtain ⟨⟨rfl, rfl, hok⟩, rfl, rfl⟩ := hk
      simp only [VR, fillV] at hv ⊢
      obtain ⟨k, g1, g2⟩ := hv
      exact ⟨⟨k, hρ _ hok k g1, g2⟩, by simp⟩
    · cases h
  | .nilp, v, ts, n, u, h, he, hv => by
    cases v <;> simp only [matchV, reduceCtorEq, Option.some.injEq] at h
    subst h
    exact ⟨by simpa only [VR, fillV] using hv, by simp [fillV]⟩
  | .nsl, v, ts, n, u, h, he, hv => by
    cases v <;> simp only [matchV, reduceCtorEq, Option.some.injEq] at h
    subst h
    exact ⟨by simpa only [VR, fillV] using hv, by simp [fillV]⟩
  | .nilf, v, ts, n, u, h, he, hv => by
    cases v <;> simp only [matchV, reduceCtorEq, Option.some.injEq] at h
    subst h
    exact ⟨by simpa only [VR, fillV] using hv, by simp [fillV]⟩
  | .agg l, v, ts, n, u, h, he, hv => by
    cases v <;> simp only [matchV, reduceCtorEq] at h
    simp only [VR] at hv
    obtain ⟨x, rfl, hx⟩ := hv
    obtain ⟨h1, h2⟩ := matchL_fill hρ hO h he hx
    simp only [fillV, VR]
    exact ⟨⟨x, rfl, h1⟩, h2⟩
  | .tup l, v, ts, n, u, h, he, hv => by
    cases v <;> simp only [matchV, reduceCtorEq] at h
    simp only [VR] at hv
    obtain ⟨x, rfl, hx⟩ := hv
    obtain ⟨h1, h2⟩ := matchL_fill hρ hO h he hx
    simp only [fillV, VR]
    exact ⟨⟨x, rfl, h1⟩, h2⟩
  | .func fn a c, v, ts, n, u, h, he, hv => by
    cases v <;> simp only [matchV, reduceCtorEq] at h
    split at h
    · rename_i hk
      split at h
      · rename_i x y hx hy
        simp only [Option.some.injEq] at h
        subst h
        simp only [VR] at hv
        obtain ⟨p, q, rfl, g1, g2⟩ := hv
        obtain ⟨h1, h2⟩ := matchL_fill hρ hO hx he.left g1
        have hr := he.right
        rw [← h2] at hr
        obtain ⟨h3, h4⟩ := matchL_fill hρ hO hy hr g2
        simp only [fillV, VR]
        exact ⟨⟨p, q, by rw [hk], h1, h3⟩, by rw [h4, h2]; simp [Nat.add_assoc]⟩
      · cases h
    · cases h
  | .bad, v, ts, n, u, h, he, hv => by cases v <;> simp [matchV] at h
theorem matchL_fill (hρ : ∀ b, ok b = true → ∀ k, ρ b = some k → ρ' b = some k) (hO : ∀ k, O' k → O k) : ∀ {p v : List AV} {ts : List T} {n : Nat} {us : List Value}, matchL ok p v = some ts → EnvAt C es n ts → VRs C ρ O w v us →
    VRs (C.env es) ρ' O' w (fillL p n).1 us ∧ (fillL p n).2 = n + ts.length
  | [], v, ts, n, us, h, he, hv => by
    cases v <;> simp only [matchL, reduceCtorEq, Option.some.injEq] at h
    subst h
    cases us with
    | nil => simp [fillL, VRs]
    | cons u us => simp only [VRs] at hv
  | p :: l, v, ts, n, us, h, he, hv => by
    cases v <;> simp only [matchL, reduceCtorEq] at h
    split at h
    · rename_i x y hx hy
      simp only [Option.some.injEq] at h
      subst h
      cases us with
      | nil => simp only [VRs] at hv
      | cons u us =>
        simp only [VRs] at hv
        obtain ⟨h1, h2⟩ := matchV_fill hρ hO hx he.left hv.1
        have hr := he.right
        rw [← h2] at hr
        obtain ⟨h3, h4⟩ := matchL_fill hρ hO hy hr hv.2
        simp only [fillL, VRs]
        exact ⟨⟨h1, h3⟩, by rw [h4, h2]; simp [Nat.add_assoc]⟩
    · cases h
end
end
end Go.Sx
end
section
namespace Go.Sx
open Go

/-- A search tree over the numbers from 0 on. -/
inductive Bt (α : Type) where
  | leaf
  | node (k : Nat) (v : α) (l r : Bt α)
def Bt.find {α : Type} : Bt α → Nat → Option α
  | .leaf, _ => none
  | .node k v l r, i => match Nat.beq i k with
    | true => some v
    | false => match Nat.ble i k with
      | true => l.find i
      | false => r.find i
def Bt.build {α : Type} : Nat → Nat → List α → Bt α
  | 0, _, _ => .leaf
  | f + 1, s, l => match l.drop (l.length / 2) with
    | [] => .leaf
    | v :: r => .node (s + l.length / 2) v (build f s (l.take (l.length / 2))) (build f (s + l.length / 2 + 1) r)

theorem Bt.find_build {α : Type} : ∀ (f s : Nat) (l : List α) (i : Nat), l.length ≤ f → (Bt.build f s l).find (s + i) = l[i]?
  | 0, s, l, i, h => by
    have : l = [] := List.eq_nil_of_length_eq_zero (by omega)
    subst this; rfl
  | f + 1, s, l, i, h => by
    simp only [Bt.build]
    split
    · rename_i hd
      have hl := congrArg List.length hd
      simp only [List.length_drop, List.length_nil] at hl
      have : l = [] := List.eq_nil_of_length_eq_zero (by omega)
      subst this; rfl
    · rename_i v r hd
      have hm : l[l.length / 2]? = some v := by
        have := congrArg (·[0]?) hd
        simpa using this
      have hr : ∀ j, r[j]? = l[l.length / 2 + 1 + j]? := by
        intro j
        have := congrArg (·[j + 1]?) hd
        simp only [List.getElem?_drop, List.getElem?_cons_succ] at this
        rw [← this]; congr 1; omega
      have hlen : l.length / 2 + 1 + r.length = l.length := by
        have := congrArg List.length hd
        simp only [List.length_drop, List.length_cons] at this
        omega
      simp only [Bt.find]
      rcases Nat.lt_trichotomy i (l.length / 2) with hlt | heq | hgt
      · have e1 : Nat.beq (s + i) (s + l.length / 2) = false := by
          rw [Bool.eq_false_iff]; intro e; have := Nat.eq_of_beq_eq_true e; omega
        have e2 : Nat.ble (s + i) (s + l.length / 2) = true := Nat.ble_eq_true_of_le (by omega)
        rw [e1, e2]
        simp only
        rw [Bt.find_build f s _ i (by simp; omega)]
        rw [List.getElem?_take, if_pos hlt]
      · subst heq
        have e1 : Nat.beq (s + l.length / 2) (s + l.length / 2) = true := Nat.beq_refl _
        rw [e1, hm]
      · have e1 : Nat.beq (s + i) (s + l.length / 2) = false := by
          rw [Bool.eq_false_iff]; intro e; have := Nat.eq_of_beq_eq_true e; omega
        have e2 : Nat.ble (s + i) (s + l.length / 2) = false := by
          rw [Bool.eq_false_iff]; intro e; have := Nat.le_of_ble_eq_true e; omega
        rw [e1, e2]
        simp only
        rw [show s + i = s + l.length / 2 + 1 + (i - (l.length / 2 + 1)) from by omega, Bt.find_build f _ r _ (by omega), hr]
        congr 1; omega

/-- The program, looked up quickly. -/
def PV.fast (P : Program) : PV where
  info := fun t => match (Bt.build P.types.toList.length 0 P.types.toList).find t with
    | some x => some x
    | none => P.info? t
  funcs := fun f => (Bt.build P.funcs.toList.length 0 P.funcs.toList).find f
  mixed := P.follows .mixedOrders
  stood := P.stoodInHeld
  eqg := P.eqGuardType P.depth
theorem PV.fast_eq (P : Program) : PV.fast P = PV.of P := by
  have h1 : (fun t => match (Bt.build P.types.toList.length 0 P.types.toList).find t with
    | some x => some x
    | none => P.info? t) = P.info? := by
    funext t
    have := Bt.find_build P.types.toList.length 0 P.types.toList t (Nat.le_refl _)
    rw [Nat.zero_add] at this
    rw [this]
    cases h : P.types[t]? with
    | none => simp [h]
    | some x =>
      have hlt : t < P.types.size := by
        rcases Nat.lt_or_ge t P.types.size with h' | h'
        · exact h'
        · rw [Array.getElem?_eq_none h'] at h; cases h
      simp [Tables.info?, h, hlt]
  have h2 : (fun f => (Bt.build P.funcs.toList.length 0 P.funcs.toList).find f) = fun f => P.funcs[f]? := by
    funext t
    have := Bt.find_build P.funcs.toList.length 0 P.funcs.toList t (Nat.le_refl _)
    rw [Nat.zero_add] at this
    rw [this]; simp
  unfold PV.fast PV.of
  rw [h1, h2]

end Go.Sx
end
section
namespace Go.Sx
open Go
open Go.RowKit (Below)

section
variable {C : Ctx} {es : List D} {ρ ρ' : Nat → Option Nat} {O O' : Nat → Prop} {w : World} {ok : Nat → Bool}

theorem matchV_bad {p : AV} {ts : List T} (h : matchV ok p .bad = some ts) : False := by cases p <;> simp [matchV] at h

/-- The frame's temporaries, in part. -/
def TmIs (C : Ctx) (ρ : Nat → Option Nat) (O : Nat → Prop) (w : World) (l : List AV) (f : Nat → Option Value) : Prop :=
  ∀ i, l.getD i .bad = .bad ∨ ∃ u, f i = some u ∧ VR C ρ O w (l.getD i .bad) u

theorem matchTm_fill (hρ : ∀ b, ok b = true → ∀ k, ρ b = some k → ρ' b = some k) (hO : ∀ k, O' k → O k) : ∀ {l m : List AV} {ts : List T} {n : Nat} {f : Nat → Option Value}, matchTm ok l m = some ts → EnvAt C es n ts →
    TmIs C ρ O w m f → (fillL l n).2 = n + ts.length ∧ (fillL l n).1.length = m.length ∧ TmIs (C.env es) ρ' O' w (fillL l n).1 f
  | [], m, ts, n, f, h, _, _ => by
    cases m <;> simp only [matchTm, reduceCtorEq, Option.some.injEq] at h
    subst h
    exact ⟨rfl, rfl, fun i => .inl (by simp [fillL])⟩
  | p :: l, m, ts, n, f, h, he, ht => by
    cases m with
    | nil => cases p <;> simp [matchTm] at h
    | cons v m =>
      have ht' : TmIs C ρ O w m (fun i => f (i + 1)) := fun i => by simpa using ht (i + 1)
      have gen : ∀ {x y : List T}, matchV ok p v = some x → matchTm ok l m = some y → ts = x ++ y →
          (fillL (p :: l) n).2 = n + ts.length ∧ (fillL (p :: l) n).1.length = (v :: m).length ∧ TmIs (C.env es) ρ' O' w (fillL (p :: l) n).1 f := by
        intro x y hx hy hts
        subst hts
        have h0 := ht 0
        simp only [List.getD_cons_zero] at h0
        rcases h0 with hb | ⟨u, hu, hv⟩
        · rw [hb] at hx; exact (matchV_bad hx).elim
        · obtain ⟨h1, h2⟩ := matchV_fill hρ hO hx he.left hv
          have hr := he.right
          rw [← h2] at hr
          obtain ⟨h3, h4, h5⟩ := matchTm_fill hρ hO hy hr ht'
          simp only [fillL]
          refine ⟨by rw [h3, h2]; simp [Nat.add_assoc], by simp [h4], fun i => ?_⟩
          cases i with
          | zero => exact .inr ⟨u, hu, by simpa using h1⟩
          | succ i => simpa using h5 i
      cases p <;> first
        | (simp only [matchTm] at h
           split at h
           · rename_i x y hx hy
             simp only [Option.some.injEq] at h
             exact gen hx hy h.symm
           · cases h)
        | (simp only [matchTm] at h
           obtain ⟨h3, h4, h5⟩ := matchTm_fill (n := n) hρ hO h he ht'
           simp only [fillL, fillV]
           refine ⟨h3, by simp [h4], fun i => ?_⟩
           cases i with
           | zero => exact .inl rfl
           | succ i => simpa using h5 i)

theorem lenT {p t : T} {ts : List T} {n : Nat} (h : matchT p t = some ts) : (fillT p n).2 = n + ts.length := by
  cases p with
  | lit d =>
    simp only [matchT] at h
    split at h
    · split at h
      · simp only [Option.some.injEq] at h; subst h; rfl
      · cases h
    · cases h
  | v i => simp only [matchT, Option.some.injEq] at h; subst h; rfl
  | app q l => simp only [matchT, Option.some.injEq] at h; subst h; rfl
mutual
theorem lenV : ∀ {p v : AV} {ts : List T} {n : Nat}, matchV ok p v = some ts → (fillV p n).2 = n + ts.length
  | p, v, ts, n, h => by
    cases p <;> cases v <;> simp only [matchV, reduceCtorEq] at h <;> simp only [fillV]
    case int.int => split at h <;> first | exact lenT h | cases h
    case bool.bool => exact lenT h
    case str.str => exact lenT h
    case sl.sl => split at h <;> first | exact lenT h | cases h
    case eptr.eptr =>
      split at h
      · split at h
        · rename_i x y hx hy
          simp only [Option.some.injEq] at h
          subst h
          rw [lenT hy, lenT hx]; simp [Nat.add_assoc]
        · cases h
      · cases h
    case agg.agg => exact lenL h
    case tup.tup => exact lenL h
    case func.func =>
      split at h
      · split at h
        · rename_i x y hx hy
          simp only [Option.some.injEq] at h
          subst h
          rw [lenL hy, lenL hx]; simp [Nat.add_assoc]
        · cases h
      · cases h
    all_goals first
      | (split at h <;> first | (simp only [Option.some.injEq] at h; subst h; rfl) | cases h)
      | (simp only [Option.some.injEq] at h; subst h; rfl)
theorem lenL : ∀ {p v : List AV} {ts : List T} {n : Nat}, matchL ok p v = some ts → (fillL p n).2 = n + ts.length
  | [], v, ts, n, h => by
    cases v <;> simp only [matchL, reduceCtorEq, Option.some.injEq] at h
    subst h; rfl
  | p :: l, v, ts, n, h => by
    cases v <;> simp only [matchL, reduceCtorEq] at h
    split at h
    · rename_i x y hx hy
      simp only [Option.some.injEq] at h
      subst h
      simp only [fillL]
      rw [lenL hy, lenV hx]; simp [Nat.add_assoc]
    · cases h
end

theorem matchH_fill (hρ : ∀ b, ok b = true → ∀ k, ρ b = some k → ρ' b = some k) (hO : ∀ k, O' k → O k) {ws : Heap} : ∀ {h : Heap} {ts : List T} {n : Nat}, matchH ok ws h = some ts → EnvAt C es n ts →
    (∀ b, ((fillH h n).1.lookup b).isSome = (h.lookup b).isSome) ∧ ∀ b x, (fillH h n).1.lookup b = some x → ∃ l l' e, x = .cells l e ∧ ws.lookup b = some (.cells l' e) ∧ ∀ us, VRs C ρ O w l' us → VRs (C.env es) ρ' O' w l us
  | [], ts, n, _, _ => ⟨fun b => rfl, fun b x hb => by simp [fillH] at hb⟩
  | (b0, .dead) :: h, ts, n, hm, _ => by simp [matchH] at hm
  | (b0, .cells l0 e0) :: h, ts, n, hm, he => by
    simp only [matchH] at hm
    split at hm
    · rename_i l' e' hb0
      split at hm
      · rename_i hee
        split at hm
        · rename_i x y hx hy
          simp only [Option.some.injEq] at hm
          subst hm
          have h2 := lenL (n := n) hx
          have hr := he.right
          rw [← h2] at hr
          obtain ⟨h3, h4⟩ := matchH_fill hρ hO hy hr
          simp only [fillH]
          refine ⟨fun b => ?_, fun b z hb => ?_⟩
          · by_cases hbb : b = b0
            · subst hbb; simp
            · simp only [List.lookup, beq_false_of_ne hbb]; exact h3 b
          · by_cases hbb : b = b0
            · subst hbb
              simp only [List.lookup_cons_self, Option.some.injEq] at hb
              subst hb
              exact ⟨_, l', e0, rfl, by rw [hb0, hee], fun us hv => (matchL_fill hρ hO hx he.left hv).1⟩
            · simp only [List.lookup, beq_false_of_ne hbb] at hb
              exact h4 b z hb
        · cases hm
      · cases hm
    · cases hm
end
end Go.Sx
end
section
namespace Go.Sx
open Go
open Go.RowKit (Below)

section
variable {C : Ctx} {Pre : Nat → List D → Prop} {call : FuncId → List AV → Base → Nat → X Eff}

theorem evals_map (l : List T) : T.evals C.F C.η l = l.map (T.eval C.F C.η) := by
  induction l with
  | nil => rfl
  | cons x l ih => simp [T.evals, ih]

/-- At a place the frame is as its template says. -/
theorem tmatch_fr {τ : Tmpl} {S : St} {ts : List T} (h : tmatch τ S = some ts) {ρ : Nat → Option Nat} {a : Act} {w : World} (hF : FrR C (fun _ => none) S ρ a w) :
    FrR (C.env (T.evals C.F C.η ts)) (fun _ => none) (fillS τ) (fun b => if (τ.ws.lookup b).isSome then ρ b else none) a w := by
  simp only [tmatch] at h
  split at h
  · rename_i x y hx hy
    simp only [Option.some.injEq] at h
    subst h
    have he : EnvAt C (T.evals C.F C.η (x ++ y)) 0 (x ++ y) := fun k _ => by rw [Nat.zero_add, evals_map]
    generalize hes : T.evals C.F C.η (x ++ y) = es at he ⊢
    let ρ' : Nat → Option Nat := fun b => if (τ.ws.lookup b).isSome then ρ b else none
    have hρ : ∀ b, (τ.ws.lookup b).isSome = true → ∀ k, ρ b = some k → ρ' b = some k := fun b hb k hk => by simp [ρ', hb, hk]
    have hhl : ∀ b, S.hl (fun _ => none) b = S.ws.lookup b := fun b => by simp [St.hl]
    have hhl' : ∀ b, (fillS τ).hl (fun _ => none) b = (fillS τ).ws.lookup b := fun b => by simp [St.hl]
    have hTm : TmIs C ρ (Own C (S.hl fun _ => none) ρ) w ((List.range S.tm.length).map S.tl) (fun i => a.tmps[i]?) := fun i => by
      by_cases hi : i < S.tm.length
      · rw [List.getD_eq_getElem?_getD, List.getElem?_map, List.getElem?_range hi]
        exact hF.tm.tm i
      · rw [List.getD_eq_getElem?_getD, List.getElem?_eq_none (by simp; omega)]
        exact .inl rfl
    obtain ⟨t1, t2, t3⟩ := matchTm_fill (C := C) (ρ := ρ) (ρ' := ρ') (O := Own C (S.hl fun _ => none) ρ) (O' := Own C (S.hl fun _ => none) ρ) (w := w) (es := es) hρ (fun _ h => h) hx he.left
      (f := fun i => a.tmps[i]?) hTm
    have hr := he.right
    rw [← t1] at hr
    have hH0 := fun (O' : Nat → Prop) (hO : ∀ k, O' k → Own C (S.hl fun _ => none) ρ k) => matchH_fill (C := C) (ρ := ρ) (ρ' := ρ') (O := Own C (S.hl fun _ => none) ρ) (O' := O') (w := w) (es := es) hρ hO hy hr
    have hown : ∀ k, Own (C.env es) ((fillS τ).hl fun _ => none) ρ' k → Own C (S.hl fun _ => none) ρ k := by
      rintro k (ho | ⟨b, z, hz, hlv, hk⟩)
      · exact .inl ho
      · rw [hhl'] at hz
        obtain ⟨l, l', e, rfl, h3, _⟩ := (hH0 _ (fun _ h => h)).2 b z hz
        refine .inr ⟨b, .cells l' e, by rw [hhl]; exact h3, rfl, ?_⟩
        simp only [ρ'] at hk
        split at hk
        · exact hk
        · cases hk
    obtain ⟨u1, u2⟩ := hH0 _ hown
    have t3' := (matchTm_fill (C := C) (ρ := ρ) (ρ' := ρ') (O := Own C (S.hl fun _ => none) ρ) (O' := Own (C.env es) ((fillS τ).hl fun _ => none) ρ') (w := w) (es := es) hρ hown hx he.left
      (f := fun i => a.tmps[i]?) hTm).2.2
    have hback : ∀ b k, ρ' b = some k → (τ.ws.lookup b).isSome = true ∧ ρ b = some k := fun b k hb => by
      simp only [ρ'] at hb
      split at hb
      · rename_i hs; exact ⟨hs, hb⟩
      · cases hb
    have hsome : ∀ b, ((fillS τ).ws.lookup b).isSome = (τ.ws.lookup b).isSome := u1
    refine ⟨⟨hF.tm.defers, by rw [hF.tm.size]; exact (by rw [List.length_map, List.length_range] at t2; exact t2.symm), fun t => by rw [show (fillS τ).tl t = (fillL τ.tm 0).1.getD t .bad from Tm.get_of _ _ _]; exact t3' t⟩, ⟨?_, ?_, ?_, ?_, hF.hp.below, hF.hp.room⟩⟩
    · intro b k hb
      have h1 := (hback b k hb).1
      rw [← hsome] at h1
      rw [hhl']
      exact Option.isSome_iff_exists.1 h1
    · exact fun b k hb => hF.hp.own b k (hback b k hb).2
    · intro b b' z z' k hz hz' hlz hlz' hb hb'
      rw [hhl'] at hz hz'
      obtain ⟨l1, l1', e1, rfl, g1, _⟩ := u2 b z hz
      obtain ⟨l2, l2', e2, rfl, g2, _⟩ := u2 b' z' hz'
      exact hF.hp.inj b b' (.cells l1' e1) (.cells l2' e2) k (by rw [hhl]; exact g1) (by rw [hhl]; exact g2) rfl rfl (hback b k hb).2 (hback b' k hb').2
    · intro b l e hb
      rw [hhl'] at hb
      obtain ⟨l1, l1', e1, hz, g1, g2⟩ := u2 b _ hb
      simp only [Blk.cells.injEq] at hz
      obtain ⟨rfl, rfl⟩ := hz
      obtain ⟨k, cs, h1, h2, h3⟩ := hF.hp.cells b l1' e (by rw [hhl]; exact g1)
      have hs : (τ.ws.lookup b).isSome = true := by rw [← hsome, hb]; rfl
      exact ⟨k, cs, hρ b hs k h1, h2, g2 _ h3⟩
  · cases h

theorem headOf_ends {todo t : List Item} {id : Nat} (h : headOf todo = some (id, t)) {P : Program} {a : Act} {w : World} {R : Act → World → Prop} (hE : Ends P t a w R) : Ends P todo a w R := by
  unfold headOf at h
  split at h
  · obtain ⟨x, _, hx⟩ := Option.map_eq_some_iff.1 h
    simp only [Prod.mk.injEq] at hx
    obtain ⟨_, rfl⟩ := hx
    exact hE.step fun _ _ => step_loop
  · obtain ⟨x, _, hx⟩ := Option.map_eq_some_iff.1 h
    simp only [Prod.mk.injEq] at hx
    obtain ⟨_, rfl⟩ := hx
    exact hE.step fun _ _ => step_inLoop
  · cases h
theorem cutAt_some {cuts : List Cut} {todo t : List Item} {i : Nat} {τ : Tmpl} (h : cutAt cuts todo = some (i, t, τ)) : ∃ c id, cuts[i]? = some c ∧ c.τ = τ ∧ headOf todo = some (id, t) := by
  unfold cutAt at h
  split at h
  · cases h
  · split at h
    · rename_i id t' hh
      split at h
      · rename_i c j hf
        simp only [Option.some.injEq, Prod.mk.injEq] at h
        obtain ⟨rfl, rfl, rfl⟩ := h
        exact ⟨c, id, (find_zipIdx hf).1, rfl, hh⟩
      · cases h
    · cases h

/-- A run up to the next place is sound. -/
theorem runC_sound (hc : CtxOk C) (hcs : CallsOk C Pre call) {cuts : List Cut} : ∀ {n : Nat} {todo : List Item} {S : St} {r : St ⊕ Leaf} {ρ : Nat → Option Nat} {a : Act} {w : World} {R : Act → World → Prop},
    (runC C.P C.G cuts call n todo S).Ev C Pre r → FrR C (fun _ => none) S ρ a w → (∀ b x, S.ws.lookup b = some x → b < S.nx) →
    (∀ S', r = .inl S' → ∀ a' w' ρ', FrR C (fun _ => none) S' ρ' a' w' → R a' w') →
    (∀ i t ts, r = .inr (.cut i t ts) → ∃ c, cuts[i]? = some c ∧ ∀ a' w' ρ', FrR (C.env (T.evals C.F C.η ts)) (fun _ => none) (fillS c.τ) ρ' a' w' → Ends C.P t a' w' R) → Ends C.P todo a w R
  | 0, _, _, _, _, _, _, _, h, _, _, _, _ => (show False from h).elim
  | n + 1, todo, S, r, ρ, a, w, R, h, hF, hn, h1, h2 => by
    unfold runC at h
    split at h
    · rename_i i t τ hcut
      obtain ⟨ts, hts, h⟩ := X.ev_bopt h
      have := X.ev_ret h
      subst this
      obtain ⟨c, id, g1, rfl, g3⟩ := cutAt_some hcut
      obtain ⟨c', g4, g5⟩ := h2 i t ts rfl
      rw [g1] at g4
      cases g4
      exact headOf_ends g3 (g5 a w _ (tmatch_fr hts hF))
    · obtain ⟨⟨q, S1⟩, e1, h⟩ := X.ev_bind h
      have hk := stepX_keeps hcs e1
      have hfr : FrWs (fun _ => none) 0 S := ⟨Nat.zero_le _, fun b x hb => .inl ⟨Nat.zero_le _, hn b x hb⟩⟩
      have hn1 : ∀ b x, S1.ws.lookup b = some x → b < S1.nx := fun b x hb => by
        rcases (hk.ws 0 hfr).2 b x hb with h | h
        · exact h.2
        · exact (h rfl).elim
      cases q with
      | none =>
        have := X.ev_ret h
        subst this
        rcases stepX_cases e1 with ⟨_, rfl, rfl | ⟨k, rfl⟩⟩ | ⟨_, h, _⟩ | ⟨_, _, _, _, _, _, h, _⟩
        · exact ends_nil (h1 _ rfl a w ρ hF)
        · exact ends_ret (h1 _ rfl a w ρ hF)
        · cases h
        · cases h
      | some k =>
        refine stepX_sound hc hcs e1 hF (fun b hb1 _ => ?_) (fun a' w' ρ' q1 _ => runC_sound hc hcs h q1 hn1 h1 h2)
        simp only [St.hl, Option.or_none]
        cases hl : S.ws.lookup b with
        | none => rfl
        | some x => have := hn b x hl; omega
end
end Go.Sx
end
section
namespace Go.Sx
open Go
open Go.RowKit (Below)

/-- A place in a function from which its run goes on to the end: what it asks of its variables, what the function then answers, and what becomes less from place to place. -/
structure Tail where
  id : Nat
  τ : Tmpl
  pre : List D → Prop
  fn : List D → List D
  meas : List D → Nat
def Tail.cut (t : Tail) : Cut := ⟨t.id, t.τ⟩

/-- What is asked of a leaf. -/
def Leaf.Ok (V : PV) (c : Con) (Ts : List Tail) (F : Fns) (ds goal : List D) (m : Nat → Prop) : Leaf → Prop
  | .done ts => AgreeS c.rs (T.evals F ds ts) goal
  | .cut i todo ts => ∃ t, Ts[i]? = some t ∧ todo = todoOf V c.f t.id ∧ t.pre (T.evals F ds ts) ∧ m (t.meas (T.evals F ds ts)) ∧ AgreeS c.rs (t.fn (T.evals F ds ts)) goal

section
variable {P : Program} {G : Nat → Option (List Value)}

def TailR (C : Ctx) (fn : Func) (rs : List Sh) (goal : List D) (a : Act) (w : World) : Prop :=
  a.defers = [] ∧ ∃ u, (results fn a.tmps).run C.P w = .ok u w ∧ ∃ vs, u = oneTup vs ∧ Below C.B C.w0 w ∧ ArgsR w C.O rs goal vs

theorem endC_sound {C : Ctx} {Pre : Nat → List D → Prop} (hc : CtxOk C) {c : Con} {fn : Func} {Ts : List Tail} {r : St ⊕ Leaf} {l : Leaf} {goal : List D} {m : Nat → Prop} {V : PV}
    (h : (endC C.P C.G c fn r).Ev C Pre l) (hl : l.Ok V c Ts C.F C.η goal m) :
    (∀ S', r = .inl S' → ∀ a' w' ρ', FrR C (fun _ => none) S' ρ' a' w' → TailR C fn c.rs goal a' w') ∧
    (∀ i t ts, r = .inr (.cut i t ts) → ∃ t', Ts[i]? = some t' ∧ t = todoOf V c.f t'.id ∧ t'.pre (T.evals C.F C.η ts) ∧ m (t'.meas (T.evals C.F C.η ts)) ∧ AgreeS c.rs (t'.fn (T.evals C.F C.η ts)) goal) := by
  constructor
  · rintro S' rfl a' w' ρ' hF
    unfold endC at h
    obtain ⟨v, hv, h⟩ := X.ev_bopt h
    obtain ⟨ts, hts, h⟩ := X.ev_bopt h
    have := X.ev_ret h
    subst this
    obtain ⟨u, r1, r2⟩ := resultsA_sound hc hF.tm hF.hp hv
    obtain ⟨vs, rfl, hr⟩ := untup_vrs rfl hts r2
    exact ⟨hF.tm.defers, _, r1, vs, rfl, hF.hp.below, (hr.weaken (fun k ho => .inl ho)).agree hl⟩
  · rintro i t ts rfl
    unfold endC at h
    have := X.ev_ret h
    subst this
    exact hl

/-- The runs from the places of a function, all at once. -/
theorem tails_run (K : List Spec) (hK : ∀ s ∈ K, s.Ok P G) (c : Con) (Ts : List Tail) (fu n : Nat)
    (hT : ∀ t ∈ Ts, ∃ tr : Tr Leaf, ((tlC (PV.fast P) G (K.map (·.con)) (Ts.map Tail.cut) fu c n t.τ t.id).prune []).toTr = tr ∧
      ∀ ds, t.pre ds → tr.holds (fnOf K) (preOf K) ds (Leaf.Ok (PV.fast P) c Ts (fnOf K) ds (t.fn ds) (· < t.meas ds))) :
    ∀ (m : Nat) (t : Tail), t ∈ Ts → ∀ (C : Ctx), C.P = P → C.G = G → C.F = fnOf K → CtxOk C → t.pre C.η → t.meas C.η < m → ∀ (ρ : Nat → Option Nat) (a : Act) (w : World) (fn : Func), P.funcs[c.f]? = some fn →
      FrR C (fun _ => none) (fillS t.τ) ρ a w → Ends P (todoOf (PV.fast P) c.f t.id) a w (TailR C fn c.rs (t.fn C.η)) := by
  intro m
  induction m with
  | zero => intro t _ C _ _ _ _ _ hm; omega
  | succ m ih =>
    intro t ht C hP hG hF hc hpre hm ρ a w fn hfn hFr
    subst hP hG
    obtain ⟨tr, htr, hv⟩ := hT t ht
    have hh := hv C.η hpre
    rw [← htr, ← hF] at hh
    have hh2 := X.holds_prune (C := C) (fun t b hm => by cases hm) (X.holds_toTr (C := C) hh)
    obtain ⟨l, he, hl⟩ := X.ev_of_holds hh2
    unfold tlC at he
    have hfn' : (PV.fast C.P).funcs c.f = some fn := by rw [PV.fast_eq, PV.funcs_of]; exact hfn
    simp only [hfn'] at he
    obtain ⟨hnx, he⟩ := X.ev_bguard he
    obtain ⟨r, hrun, hend⟩ := X.ev_bind he
    have hcon : ConsOk C (preOf K) (K.map (·.con)) := by
      intro i c' hi
      rw [hF]
      exact consOk_of hK i c' hi
    have hcs := callX_ok hc hcon (fu := fu) n
    rw [PV.fast_eq] at hrun hend
    obtain ⟨e1, e2⟩ := endC_sound hc hend hl
    rw [PV.fast_eq]
    refine runC_sound hc hcs hrun hFr (fun b x hb => ?_) e1 (fun i td ts hr => ?_)
    · have : ∀ (h : Heap) (n : Nat) b x, (fillH h n).1.lookup b = some x → ∃ y, (b, y) ∈ h := by
        intro h
        induction h with
        | nil => intro n b x hb; simp [fillH] at hb
        | cons p h ihh =>
          obtain ⟨b0, y⟩ := p
          intro n b x hb
          cases y with
          | dead =>
            simp only [fillH] at hb
            by_cases hbb : b = b0
            · exact ⟨_, by rw [hbb]; exact List.mem_cons_self⟩
            · simp only [List.lookup, beq_false_of_ne hbb] at hb
              obtain ⟨y, hy⟩ := ihh _ _ _ hb
              exact ⟨y, List.mem_cons_of_mem _ hy⟩
          | cells l e =>
            simp only [fillH] at hb
            by_cases hbb : b = b0
            · exact ⟨_, by rw [hbb]; exact List.mem_cons_self⟩
            · simp only [List.lookup, beq_false_of_ne hbb] at hb
              obtain ⟨y, hy⟩ := ihh _ _ _ hb
              exact ⟨y, List.mem_cons_of_mem _ hy⟩
      obtain ⟨y, hy⟩ := this _ _ _ _ hb
      have := List.all_eq_true.1 hnx _ hy
      simpa [fillS] using this
    · obtain ⟨t', g1, g2, g3, g4, g5⟩ := e2 i td ts hr
      refine ⟨t'.cut, by simp [g1], fun a' w' ρ' hF' => ?_⟩
      have hmem : t' ∈ Ts := List.mem_of_getElem? g1
      have := ih t' hmem (C.env (T.evals C.F C.η ts)) rfl rfl hF ⟨hc.glob, hc.out, hc.away⟩ g3 (by simp only [Ctx.env]; omega) ρ' a' w' fn hfn hF'
      rw [PV.fast_eq] at this g2
      rw [g2]
      refine this.mono ?_
      rintro a2 w2 ⟨h1, u, h2, vs, h3, h4, h5⟩
      exact ⟨h1, u, h2, vs, h3, h4, h5.agree g5⟩

/-- **A function's contract, from its tree and those of its places.** -/
theorem spec_cut (K : List Spec) (hK : ∀ s ∈ K, s.Ok P G) (s : Spec) (Ts : List Tail) (fu n : Nat) (hfold : s.Folds)
    (hT : ∀ t ∈ Ts, ∃ tr : Tr Leaf, ((tlC (PV.fast P) G (K.map (·.con)) (Ts.map Tail.cut) fu s.con n t.τ t.id).prune []).toTr = tr ∧
      ∀ ds, t.pre ds → tr.holds (fnOf K) (preOf K) ds (Leaf.Ok (PV.fast P) s.con Ts (fnOf K) ds (t.fn ds) (· < t.meas ds)))
    (tr : Tr Leaf) (htr : ((fnC (PV.fast P) G (K.map (·.con)) (Ts.map Tail.cut) fu s.con n).prune []).toTr = tr)
    (hv : ∀ ds, s.pre ds → tr.holds (fnOf K) (preOf K) ds (Leaf.Ok (PV.fast P) s.con Ts (fnOf K) ds (s.fn ds) (fun _ => True))) : s.Ok P G := by
  refine ⟨?_, hfold⟩
  intro w O ds us hG hO hAw hA hP
  let C : Ctx := { P, F := fnOf K, η := ds, G, O, B := w.heap.size, w0 := w }
  have hc : CtxOk C := ⟨fun g l hg => hG g l hg, hO, hAw⟩
  have hcon : ConsOk C (preOf K) (K.map (·.con)) := consOk_of hK
  have hcs := callX_ok hc hcon (fu := fu) n
  have hH : Hp C (fun _ => none) (fun _ => none) w := ⟨fun b k h => (by cases h), fun b k h => (by cases h), fun b b' x x' k h => (by cases h), fun b l e h => (by cases h), Below.refl _ _, Nat.le_refl _⟩
  have hown : ∀ k, Own C (fun _ => none) (fun _ => none) k → O k := by
    rintro k (h | ⟨b, x, h, _⟩)
    · exact h
    · cases h
  have hargs : VRs C (fun _ => none) (Own C (fun _ => none) (fun _ => none)) w (resAV .v s.con.ps 0) us :=
    resAV_vrs (hA.weaken (O' := O) hown) (fun k => by rw [Nat.zero_add]; rfl)
  have hh := hv ds hP
  rw [← htr] at hh
  have hh2 := X.holds_prune (C := C) (fun t b hm => by cases hm) (X.holds_toTr (C := C) hh)
  obtain ⟨l, he, hl⟩ := X.ev_of_holds hh2
  unfold fnC at he
  simp only [PV.fast_eq, PV.funcs_of] at he
  split at he
  · rename_i fn hfn
    split at he
    · rename_i body hb
      obtain ⟨hg, he⟩ := X.ev_bguard he
      obtain ⟨r, hrun, hend⟩ := X.ev_bind he
      simp only [Bool.and_eq_true, bne_iff_ne, ne_eq, decide_eq_true_eq] at hg
      obtain ⟨⟨hname, _⟩, hle⟩ := hg
      obtain ⟨e1, e2⟩ := endC_sound hc hend hl
      refine calls_of_ends hfn hb ?_
      have hT0 := enter_tm (C := C) (ρ := fun _ => none) (hl := fun _ => none) (w := w) (fn := fn) (nx := 0) hargs hle
      have hbase : (enterSt fn (resAV .v s.con.ps 0) 0).hl (fun _ => none) = fun _ => none := by funext b; simp [St.hl, enterSt]
      have : Ends P [.code body] { tmps := us.toArray ++ Array.replicate (fn.ntmps - us.toArray.size) undef, defers := [] } w (TailR C fn s.con.rs (s.fn ds)) := by
        refine runC_sound hc hcs hrun (ρ := fun _ => none) ⟨by rw [hbase]; exact hT0, by rw [hbase]; exact hH⟩ (fun b x hb => by simp [enterSt] at hb) e1 (fun i td ts hr => ?_)
        obtain ⟨t', g1, g2, g3, _, g5⟩ := e2 i td ts hr
        refine ⟨t'.cut, by simp [g1], fun a' w' ρ' hF' => ?_⟩
        have hmem : t' ∈ Ts := List.mem_of_getElem? g1
        have := tails_run K hK s.con Ts fu n hT _ t' hmem (C.env (T.evals C.F C.η ts)) rfl rfl rfl ⟨hc.glob, hc.out, hc.away⟩ g3 (Nat.lt_succ_self _) ρ' a' w' fn hfn hF'
        rw [g2]
        refine this.mono ?_
        rintro a2 w2 ⟨h1, u, h2, vs, h3, h4, h5⟩
        exact ⟨h1, u, h2, vs, h3, h4, h5.agree g5⟩
      refine this.mono ?_
      rintro a2 w2 ⟨h1, u, h2, vs, rfl, h4, h5⟩
      exact ⟨h1, _, h2, vs, rfl, h4, h5⟩
    · exact he.elim
  · exact he.elim

/-- The same, without places. -/
theorem spec_ok (K : List Spec) (hK : ∀ s ∈ K, s.Ok P G) (s : Spec) (fu n : Nat) (hfold : s.Folds) (tr : Tr Leaf)
    (htr : ((fnC (PV.fast P) G (K.map (·.con)) [] fu s.con n).prune []).toTr = tr)
    (hv : ∀ ds, s.pre ds → tr.holds (fnOf K) (preOf K) ds (Leaf.Ok (PV.fast P) s.con [] (fnOf K) ds (s.fn ds) (fun _ => True))) : s.Ok P G :=
  spec_cut K hK s [] fu n hfold (fun t ht => by cases ht) tr htr hv
end
end Go.Sx
end
section
namespace Go.Sx
open Go

/-- What a tree answers. -/
def Tr.run (F : Fns) (ds : List D) : Tr Leaf → List D
  | .ret (.done l) => T.evals F ds l
  | .ret (.cut _ _ _) => []
  | .ask t x y => match (t.eval F ds).toBool with
    | true => x.run F ds
    | false => y.run F ds
  | .need _ k => k.run F ds
  | .pre _ _ k => k.run F ds
  | .fail _ => []
/-- What has to hold for it. -/
def Tr.safe (F : Fns) (Pre : Nat → List D → Prop) (ds : List D) : Tr Leaf → Prop
  | .ret (.done _) => True
  | .ret (.cut _ _ _) => False
  | .ask t x y => ((t.eval F ds).toBool = true → x.safe F Pre ds) ∧ ((t.eval F ds).toBool = false → y.safe F Pre ds)
  | .need t k => (t.eval F ds).toBool = true ∧ k.safe F Pre ds
  | .pre c l k => Pre c (T.evals F ds l) ∧ k.safe F Pre ds
  | .fail _ => False

theorem Agree.refl (t : Ty) (d : D) : Agree t d d := by cases t <;> rfl
theorem AgreeL.refl : ∀ (ts : List Ty) (ds : List D), AgreeL ts ds ds
  | [], _ => trivial
  | t :: ts, ds => ⟨Agree.refl t _, AgreeL.refl ts _⟩
theorem AgreeS.refl : ∀ (ps : List Sh) (ds : List D), AgreeS ps ds ds
  | [], _ => trivial
  | .at t :: ps, ds => ⟨Agree.refl t _, AgreeS.refl ps _⟩
  | .agg l :: ps, ds => ⟨AgreeL.refl l _, AgreeS.refl ps _⟩

theorem Tr.holds_run {F : Fns} {Pre : Nat → List D → Prop} {ds : List D} {V : PV} {c : Con} {Ts : List Tail} {m : Nat → Prop} : ∀ {tr : Tr Leaf}, tr.safe F Pre ds → tr.holds F Pre ds (Leaf.Ok V c Ts F ds (tr.run F ds) m)
  | .ret (.done l), _ => AgreeS.refl _ _
  | .ret (.cut _ _ _), h => h.elim
  | .ask t x y, h => by
    simp only [Tr.holds, Tr.run]
    refine ⟨fun e => ?_, fun e => ?_⟩
    · rw [e]; exact Tr.holds_run (h.1 e)
    · rw [e]; exact Tr.holds_run (h.2 e)
  | .need t k, h => ⟨h.1, Tr.holds_run h.2⟩
  | .pre c l k, h => ⟨h.1, Tr.holds_run h.2⟩
  | .fail _, h => h.elim

/-- The contract that a tree is. -/
def Spec.auto (con : Con) (K : List Spec) (tr : Tr Leaf) (pre : List D → Prop) : Spec :=
  { con := { con with fold := some fun ds => tr.run (fnOf K) ds }, pre, fn := fun ds => tr.run (fnOf K) ds }
theorem auto_ok {P : Program} {G : Nat → Option (List Value)} {K : List Spec} (hK : ∀ s ∈ K, s.Ok P G) {con : Con} {pre : List D → Prop} (fu n : Nat) {tr : Tr Leaf}
    (htr : ((fnC (PV.fast P) G (K.map (·.con)) [] fu con n).prune []).toTr = tr) (hs : ∀ ds, pre ds → tr.safe (fnOf K) (preOf K) ds) : (Spec.auto con K tr pre).Ok P G := by
  refine spec_ok K hK (Spec.auto con K tr pre) fu n (fun g hg ds _ => ?_) tr htr (fun ds hd => Tr.holds_run (hs ds hd))
  simp only [Spec.auto, Option.some.injEq] at hg ⊢
  rw [← hg]
/-- A template: what is not named is forgotten. -/
def tmplOf (n : Nat) (l : List (Nat × AV)) (ws : Heap) (nx : Nat) : Tmpl := { tm := (List.range n).map fun i => (l.lookup i).getD .bad, ws, nx }
end Go.Sx
end
section
namespace Go.Sx
open Go
@[simp] theorem D.toInt_int (n : Int) : (D.int n).toInt = n := id rfl
@[simp] theorem D.toBool_bool (b : Bool) : (D.bool b).toBool = b := id rfl
@[simp] theorem D.toStr_str (s : ByteArray) : (D.str s).toStr = s := id rfl
@[simp] theorem D.rows_list (l : List (List D)) : (D.list l).rows = l := id rfl
theorem cm_eq (x y : Int) : Cm.eval .eq x y = decide (x = y) := by simp [Cm.eval]; rfl
theorem cm_ne (x y : Int) : Cm.eval .ne x y = decide (x ≠ y) := by simp [Cm.eval, bne]; rfl
theorem cm_lt (x y : Int) : Cm.eval .lt x y = decide (x < y) := id rfl
theorem cm_le (x y : Int) : Cm.eval .le x y = decide (x ≤ y) := id rfl
theorem cm_gt (x y : Int) : Cm.eval .gt x y = decide (y < x) := id rfl
theorem cm_ge (x y : Int) : Cm.eval .ge x y = decide (y ≤ x) := id rfl
theorem ar_add (k : IntKind) (x y : Int) : Ar.eval .add k x y = k.wrap (x + y) := id rfl
theorem ar_sub (k : IntKind) (x y : Int) : Ar.eval .sub k x y = k.wrap (x - y) := id rfl
theorem ar_mul (k : IntKind) (x y : Int) : Ar.eval .mul k x y = k.wrap (x * y) := id rfl
theorem ar_quo (k : IntKind) (x y : Int) : Ar.eval .quo k x y = k.wrap (x.tdiv y) := id rfl
theorem ar_rem (k : IntKind) (x y : Int) : Ar.eval .rem k x y = x.tmod y := id rfl
theorem ar_shl (k : IntKind) (x y : Int) : Ar.eval .shl k x y = k.wrap (x * 2 ^ (min y.toNat k.bits)) := id rfl
theorem ar_shr (k : IntKind) (x y : Int) : Ar.eval .shr k x y = x.fdiv (2 ^ (min y.toNat k.bits)) := id rfl
theorem wrap_u64 (n : Int) : IntKind.u64.wrap n = n % 18446744073709551616 := by simp [IntKind.wrap, IntKind.bits, IntKind.signed]
theorem wrap_i64 (n : Int) : IntKind.i64.wrap n = (n + 9223372036854775808) % 18446744073709551616 - 9223372036854775808 := IntKind.wrap_i64 n
theorem wrap_u8 (n : Int) : IntKind.u8.wrap n = n % 256 := by simp [IntKind.wrap, IntKind.bits, IntKind.signed]
theorem wrap_u16 (n : Int) : IntKind.u16.wrap n = n % 65536 := by simp [IntKind.wrap, IntKind.bits, IntKind.signed]
section
variable (F : Fns)
theorem pe_ar (o : Ar) (k : IntKind) (x y : D) : Prim.eval F (.ar o k) [x, y] = .int (o.eval k x.toInt y.toInt) := id rfl
theorem pe_wrap (k : IntKind) (x : D) : Prim.eval F (.wrap k) [x] = .int (k.wrap x.toInt) := id rfl
theorem pe_mn (x y : D) : Prim.eval F .mn [x, y] = .int (min x.toInt y.toInt) := by simp only [Prim.eval]; congr 1; split <;> omega
theorem pe_mx (x y : D) : Prim.eval F .mx [x, y] = .int (max x.toInt y.toInt) := by simp only [Prim.eval]; congr 1; split <;> omega
theorem pe_cm (o : Cm) (x y : D) : Prim.eval F (.cm o) [x, y] = .bool (o.eval x.toInt y.toInt) := id rfl
theorem pe_not (x : D) : Prim.eval F .not [x] = .bool (!x.toBool) := id rfl
theorem pe_beq (x y : D) : Prim.eval F .beq [x, y] = .bool (x.toBool == y.toBool) := id rfl
theorem pe_ite (b x y : D) : Prim.eval F .ite [b, x, y] = if b.toBool then x else y := id rfl
theorem pe_len (d : D) : Prim.eval F .len [d] = .int d.rows.length := id rfl
theorem pe_slen (d : D) : Prim.eval F .slen [d] = .int (d.toStr.data.toList.length : Int) := id rfl
theorem pe_sat (x i : D) : Prim.eval F .sat [x, i] = .int ((x.toStr.data.toList.getD i.toInt.toNat 0).toNat : Int) := id rfl
theorem pe_call (c j : Nat) (l : List D) : Prim.eval F (.call c j) l = (F c l).getD j default := by
  rcases l with _ | ⟨a, _ | ⟨b, _ | ⟨c, l⟩⟩⟩ <;> rfl
end
end Go.Sx
end
section
namespace Go.Sx
open Go
/-- A tree whose calls' answers are named: each call adds n variables, each binding one. -/
inductive Lt where
  | ret (l : Leaf)
  | ask (t : T) (x y : Lt)
  | need (t : T) (k : Lt)
  | call (c : Nat) (l : List T) (n : Nat) (k : Lt)
  | bind (t : T) (k : Lt)
  | fail (why : String)
mutual
def T.sub (σ : List T) : T → T
  | .v i => σ.getD i (.lit default)
  | .lit d => .lit d
  | .app p l => .app p (T.subs σ l)
def T.subs (σ : List T) : List T → List T
  | [] => []
  | t :: l => t.sub σ :: T.subs σ l
end
def Leaf.sub (σ : List T) : Leaf → Leaf
  | .done l => .done (T.subs σ l)
  | .cut i todo l => .cut i todo (T.subs σ l)
def resT (c : Nat) (l : List T) : Nat → Nat → List T
  | 0, _ => []
  | n + 1, j => .app (.call c j) l :: resT c l n (j + 1)
def resD (r : List D) : Nat → Nat → List D
  | 0, _ => []
  | n + 1, j => r.getD j default :: resD r n (j + 1)
/-- The tree with its variables written out. -/
def Lt.expand (σ : List T) : Lt → Tr Leaf
  | .ret l => .ret (l.sub σ)
  | .ask t x y => .ask (t.sub σ) (x.expand σ) (y.expand σ)
  | .need t k => .need (t.sub σ) (k.expand σ)
  | .call c l n k => .pre c (T.subs σ l) (k.expand (σ ++ resT c (T.subs σ l) n 0))
  | .bind t k => k.expand (σ ++ [t.sub σ])
  | .fail s => .fail s
/-- A leaf, worked out. -/
inductive LeafV where
  | done (l : List D)
  | cut (i : Nat) (todo : List Item) (l : List D)
def Leaf.at (F : Fns) (env : List D) : Leaf → LeafV
  | .done l => .done (T.evals F env l)
  | .cut i todo l => .cut i todo (T.evals F env l)
def LeafV.Ok (V : PV) (c : Con) (Ts : List Tail) (goal : List D) (m : Nat → Prop) : LeafV → Prop
  | .done r => AgreeS c.rs r goal
  | .cut i todo r => ∃ t, Ts[i]? = some t ∧ todo = todoOf V c.f t.id ∧ t.pre r ∧ m (t.meas r) ∧ AgreeS c.rs (t.fn r) goal
section
variable (F : Fns) (Pre : Nat → List D → Prop)
def Lt.holds (Ψ : LeafV → Prop) : Lt → List D → Prop
  | .ret l, env => Ψ (l.at F env)
  | .ask t x y, env => ((t.eval F env).toBool = true → x.holds Ψ env) ∧ ((t.eval F env).toBool = false → y.holds Ψ env)
  | .need t k, env => (t.eval F env).toBool = true ∧ k.holds Ψ env
  | .call c l n k, env => Pre c (T.evals F env l) ∧ k.holds Ψ (env ++ resD (F c (T.evals F env l)) n 0)
  | .bind t k, env => k.holds Ψ (env ++ [t.eval F env])
  | .fail _, _ => False
def Lt.safe : Lt → List D → Prop
  | .ret (.done _), _ => True
  | .ret (.cut _ _ _), _ => False
  | .ask t x y, env => ((t.eval F env).toBool = true → x.safe env) ∧ ((t.eval F env).toBool = false → y.safe env)
  | .need t k, env => (t.eval F env).toBool = true ∧ k.safe env
  | .call c l n k, env => Pre c (T.evals F env l) ∧ k.safe (env ++ resD (F c (T.evals F env l)) n 0)
  | .bind t k, env => k.safe (env ++ [t.eval F env])
  | .fail _, _ => False
def Lt.run : Lt → List D → List D
  | .ret (.done l), env => T.evals F env l
  | .ret (.cut _ _ _), _ => []
  | .ask t x y, env => match (t.eval F env).toBool with
    | true => x.run env
    | false => y.run env
  | .need _ k, env => k.run env
  | .call c l n k, env => k.run (env ++ resD (F c (T.evals F env l)) n 0)
  | .bind t k, env => k.run (env ++ [t.eval F env])
  | .fail _, _ => []
end
section
variable {F : Fns} {Pre : Nat → List D → Prop} {ds : List D}
theorem evals_map' : ∀ (l : List T), T.evals F ds l = l.map (T.eval F ds)
  | [] => rfl
  | x :: l => by simp only [T.evals, List.map_cons]; rw [evals_map' l]
mutual
theorem T.eval_sub {σ : List T} : ∀ {t : T}, (t.sub σ).eval F ds = t.eval F (T.evals F ds σ)
  | .v i => by
    simp only [T.sub, T.eval]
    rw [evals_map' σ, List.getD_eq_getElem?_getD, List.getD_eq_getElem?_getD, List.getElem?_map]
    cases hi : σ[i]? with
    | some t => simp
    | none => simp only [Option.getD_none, Option.map_none, T.eval]
  | .lit d => rfl
  | .app p l => by simp only [T.sub, T.eval]; rw [T.evals_sub]
theorem T.evals_sub {σ : List T} : ∀ {l : List T}, T.evals F ds (T.subs σ l) = T.evals F (T.evals F ds σ) l
  | [] => rfl
  | t :: l => by simp only [T.subs, T.evals]; rw [T.eval_sub, T.evals_sub]
end
theorem evals_app (a b : List T) : T.evals F ds (a ++ b) = T.evals F ds a ++ T.evals F ds b := by
  rw [evals_map', evals_map', evals_map', List.map_append]
theorem evals_resT (c : Nat) (l : List T) : ∀ (n j : Nat), T.evals F ds (resT c l n j) = resD (F c (T.evals F ds l)) n j
  | 0, _ => rfl
  | n + 1, j => by
    simp only [resT, resD, T.evals, T.eval]
    rw [evals_resT c l n (j + 1), pe_call]
theorem Lt.holds_expand {V : PV} {c : Con} {Ts : List Tail} {goal : List D} {m : Nat → Prop} : ∀ {k : Lt} {σ : List T},
    k.holds F Pre (LeafV.Ok V c Ts goal m) (T.evals F ds σ) → (k.expand σ).holds F Pre ds (Leaf.Ok V c Ts F ds goal m)
  | .ret (.done l), σ, h => by
    simp only [Lt.holds, Leaf.at, LeafV.Ok] at h
    simp only [Lt.expand, Leaf.sub, Tr.holds, Leaf.Ok]
    rw [T.evals_sub]; exact h
  | .ret (.cut i todo l), σ, h => by
    simp only [Lt.holds, Leaf.at, LeafV.Ok] at h
    simp only [Lt.expand, Leaf.sub, Tr.holds, Leaf.Ok]
    rw [T.evals_sub]; exact h
  | .ask t x y, σ, h => by
    simp only [Lt.holds] at h
    simp only [Lt.expand, Tr.holds]
    rw [T.eval_sub]
    exact ⟨fun e => Lt.holds_expand (h.1 e), fun e => Lt.holds_expand (h.2 e)⟩
  | .need t k, σ, h => by
    simp only [Lt.holds] at h
    simp only [Lt.expand, Tr.holds]
    rw [T.eval_sub]
    exact ⟨h.1, Lt.holds_expand h.2⟩
  | .call c' l n k, σ, h => by
    simp only [Lt.holds] at h
    simp only [Lt.expand, Tr.holds]
    rw [T.evals_sub]
    refine ⟨h.1, Lt.holds_expand ?_⟩
    rw [evals_app, evals_resT, T.evals_sub]
    exact h.2
  | .bind t k, σ, h => by
    simp only [Lt.holds] at h
    simp only [Lt.expand]
    refine Lt.holds_expand ?_
    rw [evals_app]
    simp only [T.evals]
    rw [T.eval_sub]
    exact h
  | .fail _, _, h => h.elim
theorem Lt.holds_run {V : PV} {c : Con} {Ts : List Tail} {m : Nat → Prop} : ∀ {k : Lt} {env : List D}, k.safe F Pre env → k.holds F Pre (LeafV.Ok V c Ts (k.run F env) m) env
  | .ret (.done l), _, _ => AgreeS.refl _ _
  | .ret (.cut _ _ _), _, h => h.elim
  | .ask t x y, env, h => by
    simp only [Lt.holds, Lt.run]
    refine ⟨fun e => ?_, fun e => ?_⟩
    · rw [e]; exact Lt.holds_run (h.1 e)
    · rw [e]; exact Lt.holds_run (h.2 e)
  | .need t k, _, h => ⟨h.1, Lt.holds_run h.2⟩
  | .call c l n k, _, h => ⟨h.1, Lt.holds_run h.2⟩
  | .bind t k, _, h => Lt.holds_run (k := k) h
  | .fail _, _, h => h.elim
end
/-- The variables of a function with n atoms among its parameters. -/
def vars (n : Nat) : List T := (List.range n).map .v
def envOf (n : Nat) (ds : List D) : List D := resD ds n 0
theorem evals_vars (F : Fns) (ds : List D) (n : Nat) : T.evals F ds (vars n) = envOf n ds := by
  have key : ∀ n j, T.evals F ds ((List.range' j n).map .v) = resD ds n j := by
    intro n
    induction n with
    | zero => intro j; rfl
    | succ n ih => intro j; simp only [List.range'_succ, List.map_cons, T.evals, T.eval, resD]; rw [ih (j + 1)]
  unfold vars envOf
  rw [List.range_eq_range']
  exact key n 0
section
variable {P : Program} {G : Nat → Option (List Value)}
/-- **A function's contract, from the trees with named answers.** -/
theorem lspec_cut (K : List Spec) (hK : ∀ s ∈ K, s.Ok P G) (s : Spec) (Ts : List Tail) (fu n : Nat) (hfold : s.Folds)
    (hT : ∀ t ∈ Ts, ∃ (k : Lt) (nv : Nat), ((tlC (PV.fast P) G (K.map (·.con)) (Ts.map Tail.cut) fu s.con n t.τ t.id).prune []).toTr = k.expand (vars nv) ∧
      ∀ ds, t.pre ds → k.holds (fnOf K) (preOf K) (LeafV.Ok (PV.fast P) s.con Ts (t.fn ds) (· < t.meas ds)) (envOf nv ds))
    (k : Lt) (nv : Nat) (htr : ((fnC (PV.fast P) G (K.map (·.con)) (Ts.map Tail.cut) fu s.con n).prune []).toTr = k.expand (vars nv))
    (hv : ∀ ds, s.pre ds → k.holds (fnOf K) (preOf K) (LeafV.Ok (PV.fast P) s.con Ts (s.fn ds) (fun _ => True)) (envOf nv ds)) : s.Ok P G := by
  refine spec_cut K hK s Ts fu n hfold (fun t ht => ?_) _ htr (fun ds hd => ?_)
  · obtain ⟨k, nv, h1, h2⟩ := hT t ht
    refine ⟨_, h1, fun ds hd => Lt.holds_expand ?_⟩
    rw [evals_vars]; exact h2 ds hd
  · refine Lt.holds_expand ?_
    rw [evals_vars]; exact hv ds hd
theorem lspec_ok (K : List Spec) (hK : ∀ s ∈ K, s.Ok P G) (s : Spec) (fu n : Nat) (hfold : s.Folds) (k : Lt) (nv : Nat)
    (htr : ((fnC (PV.fast P) G (K.map (·.con)) [] fu s.con n).prune []).toTr = k.expand (vars nv))
    (hv : ∀ ds, s.pre ds → k.holds (fnOf K) (preOf K) (LeafV.Ok (PV.fast P) s.con [] (s.fn ds) (fun _ => True)) (envOf nv ds)) : s.Ok P G :=
  lspec_cut K hK s [] fu n hfold (fun t ht => by cases ht) k nv htr hv
/-- The contract that a tree is. -/
def Spec.lauto (con : Con) (K : List Spec) (nv : Nat) (k : Lt) (pre : List D → Prop) : Spec :=
  { con := { con with fold := some fun ds => k.run (fnOf K) (envOf nv ds) }, pre, fn := fun ds => k.run (fnOf K) (envOf nv ds) }
theorem lauto_ok {K : List Spec} (hK : ∀ s ∈ K, s.Ok P G) {con : Con} {pre : List D → Prop} (fu n : Nat) {k : Lt} {nv : Nat}
    (htr : ((fnC (PV.fast P) G (K.map (·.con)) [] fu con n).prune []).toTr = k.expand (vars nv)) (hs : ∀ ds, pre ds → k.safe (fnOf K) (preOf K) (envOf nv ds)) : (Spec.lauto con K nv k pre).Ok P G := by
  refine lspec_ok K hK (Spec.lauto con K nv k pre) fu n (fun g hg ds _ => ?_) k nv htr (fun ds hd => Lt.holds_run (hs ds hd))
  simp only [Spec.lauto, Option.some.injEq] at hg ⊢
  rw [← hg]
end
end Go.Sx
end
section
/- Deciding that a tree with named answers is safe, for closed arguments. -/
namespace Go.Sx
open Go
def DecK (K : List Spec) : Type := ∀ c l, Decidable (preOf K c l)
def decNil : DecK [] := fun _ _ => isFalse id
def decCons {s : Spec} {K : List Spec} (h : ∀ l, Decidable (s.pre l)) (t : DecK K) : DecK (s :: K)
  | 0, l => h l
  | i + 1, l => t i l
section
variable (F : Fns) (Pre : Nat → List D → Prop) (d : ∀ c l, Decidable (Pre c l))
def Lt.decSafe : (k : Lt) → (env : List D) → Decidable (k.safe F Pre env)
  | .ret (.done _), _ => isTrue trivial
  | .ret (.cut _ _ _), _ => isFalse id
  | .ask t x y, env =>
    match h : (t.eval F env).toBool with
    | true => match Lt.decSafe x env with
      | isTrue p => isTrue ⟨fun _ => p, fun h' => absurd (h.symm.trans h') (by decide)⟩
      | isFalse p => isFalse fun q => p (q.1 h)
    | false => match Lt.decSafe y env with
      | isTrue p => isTrue ⟨fun h' => absurd (h.symm.trans h') (by decide), fun _ => p⟩
      | isFalse p => isFalse fun q => p (q.2 h)
  | .need t k, env =>
    match Lt.decSafe k env with
    | isTrue p => match h : (t.eval F env).toBool with
      | true => isTrue ⟨h, p⟩
      | false => isFalse fun q => absurd (h.symm.trans q.1) (by decide)
    | isFalse p => isFalse fun q => p q.2
  | .call c l n k, env =>
    match d c (T.evals F env l) with
    | isTrue p => match Lt.decSafe k (env ++ resD (F c (T.evals F env l)) n 0) with
      | isTrue q => isTrue ⟨p, q⟩
      | isFalse q => isFalse fun r => q r.2
    | isFalse p => isFalse fun r => p r.1
  | .bind t k, env => Lt.decSafe k (env ++ [t.eval F env])
  | .fail _, _ => isFalse id
end
end Go.Sx
end
section
namespace Go.Sx
open Go
/- Steps through a tree with named answers. -/
section
variable {F : Fns} {Pre : Nat → List D → Prop} {Ψ : LeafV → Prop}
theorem Lt.step {c n : Nat} {l : List T} {k : Lt} {env env' : List D} (r : List D) (hp : Pre c (T.evals F env l)) (hr : F c (T.evals F env l) = r) (he : env ++ resD r n 0 = env') (hk : k.holds F Pre Ψ env') : (Lt.call c l n k).holds F Pre Ψ env := by
  subst hr; subst he; exact ⟨hp, hk⟩
theorem Lt.ask_t {t : T} {x y : Lt} {env : List D} (h : (t.eval F env).toBool = true) (hx : x.holds F Pre Ψ env) : (Lt.ask t x y).holds F Pre Ψ env :=
  ⟨fun _ => hx, fun h' => absurd (h.symm.trans h') (by decide)⟩
theorem Lt.ask_f {t : T} {x y : Lt} {env : List D} (h : (t.eval F env).toBool = false) (hy : y.holds F Pre Ψ env) : (Lt.ask t x y).holds F Pre Ψ env :=
  ⟨fun h' => absurd (h.symm.trans h') (by decide), fun _ => hy⟩
end
end Go.Sx
end
